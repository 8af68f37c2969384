/- the law SourceLines -/
import Derived.Test.YtmaiillomoehgaaDoorS6
namespace Go.Proofs.YtmaiillomoehgaaDoor.V
open Go.RowKit Go.Proofs.YtmaiillomoehgaaDoor
set_option linter.unusedVariables false
set_option linter.unusedSimpArgs false
set_option maxHeartbeats 2000000 in
set_option maxRecDepth 20000 in
theorem lwLines (w : World) (F : Nat → Prop) (hF : Old F w) (M : MS [] w) (l : Sl Int) (l_w : (slE intE).wf (Fr F []) w.heap l) (tx : ByteArray) (tx_h : inStr tx) (n : Int) (n_h : inI64 n) (g_w : hasML w.heap) :
 Calls Tryd.prog 3 #[sV l, .string tx, iI n] w fun e w' => e = .returned (bD (True)) ∧ Tr [] w [] w' := by
 have : l.xs.length ≤ 9223372036854775807 := (l_w).1.len
 obtain ⟨n_hl, n_hu⟩ : inI64 n := id n_h
 have hlow : 0 < l.xs.length → blk l.a < w.heap.size := fun h => (l_w.1.ad h).2.2
 refine go Tryd.func3 rfl 59 rfl [wfF (slE intE) l, glF] [] hF M ⟨l_w, ⟨fun h => h, g_w⟩, trivial⟩ trivial ?_
 intro a S
 refine rs S (la (av rfl)) ?_; clear S; intro a u S
 refine rs0 ?_
 refine sp S (la (mv rfl)) ?_; clear S; intro a u S
 refine cl S (gNew _ _ S.x (.nil _) l (dn0 (S.u 0 rfl))) cB9 ?_
 rintro e u ⟨T14, rfl, TK, T0⟩; refine ⟨_, rfl, fun a s => ?_⟩; replace S := S.kt s T0 TK; clear s T0 TK
 refine ens S (la (av rfl)) ?_; clear S; intro a u S
 refine wp_seq ?_
 refine rs S (la (av rfl)) ?_; clear S; intro a u S
 refine wp_block ?_
 refine lp1 (fun (i1 : Nat) => [(1, .string tx), (2, iI n), (7, pT T14 0), (8, iN i1)]) (fun (i1 : Nat) => [tpO 58 T14 l]) (fun (i1 : Nat) => i1 ≤ 4 ∧ True) (fun (i1 : Nat) => 4 - i1) S 0 (subM rfl) rfl ?_ ?_
 ·exact ⟨Nat.zero_le _, by trivial⟩
 clear S; intro i1 a u S hR
 obtain ⟨hi1, hxi1⟩ := hR
 refine wp_seq ?_
 refine rs S (tr (mv rfl)<|la (lssi rfl rfl)) ?_; clear S; intro a u S
 refine cd S rfl ?_ ?_
 ·intro hc0
  refine wp_skip (then_n (wp_seq (wp_block (rs0 ?_))))
  refine sp S (la (mv rfl)) ?_; clear S; intro a u S
  refine cl S (lText _ _ S.x T14 (S.M.pick [0] (by decide)) l (dn1 (js := [0]) (S.u 0 rfl)) (S.t 0 rfl)) cB10 ?_
  rintro e u ⟨r_t20, rfl, R_t20, hr_t20, tK, T0⟩; refine ⟨_, rfl, fun a s => ?_⟩
  replace S := (S.k1 0 rfl s T0 tK).ar (wfF strE r_t20) (Enc.up _ R_t20); clear s T0 tK R_t20
  refine ens S (la (av rfl)) ?_; clear S; intro a u S
  refine rs0 ?_
  refine sp S (tr (mv rfl)<|tr (oc (fun S=>lLines _ _ S.x (.nil _) r_t20 (S.u 2 rfl) (S.gl 1 rfl)) cB11)<|tr (ov fun S=>x_not (S.e rfl))<|tr (mv rfl)<|tr (gon 24 rfl fun S=>x_move (S.e rfl))<|la (gon 24 rfl fun S=>x_move (S.e rfl))) ?_; clear S; intro a u S
  refine strip S.s rfl rfl (gd := 24) rfl ?_
  refine cl S (gText _ _ S.x T14 (S.M.pick [0] (by decide)) l (dn1 (js := [0]) (S.u 0 rfl)) (S.t 0 rfl) r_t20 (S.u 2 rfl) (by omega) ((fun h0 => Nat.lt_of_lt_of_le (hlow h0) (S.new0 (.inl rfl))))) cB12 ?_
  rintro e u ⟨r_t27, rfl, R_t27, hr_t27, tK, T0⟩; refine ⟨_, rfl, fun a s => ?_⟩
  replace S := (S.k1 0 rfl s T0 tK).ar (wfF strE r_t27) (Enc.up _ R_t27); clear s T0 tK R_t27
  refine strip S.s rfl rfl (gd := 24) rfl ?_
  refine ens S (tr (oc (fun S=>lLines _ _ S.x (.nil _) r_t27 (S.u 3 rfl) (S.gl 1 rfl)) cB11)<|tr (gon 24 rfl fun S=>x_not (S.e rfl))<|la (ov fun S=>x_pickf (S.e rfl) (S.e rfl))) ?_; clear S; intro a u S
  refine cdf S rfl ?_
  refine wp_skip (blk_n (then_n ?_))
  refine rg S (tr (mv rfl)<|tr (addi ((i1 + 1 : Nat) : Int) rfl rfl (w_i64 (by omega)))<|la (av rfl)) ?_; clear S; intro a u S
  refine then_n ?_
  refine ⟨(i1 + 1), S.re (subM rfl) rfl rfl, ?_, ?_⟩
  ·refine ⟨by omega, ?_⟩
   trivial
  omega
 intro hc1
 refine wp_exit (then_e (then_e (blk_e (then_n ?_))))
 refine rs S (la (av rfl)) ?_; clear S; intro a u S
 refine wp_seq ?_
 refine rs S (tr (mv rfl)<|tr (oc (fun S=>gMod _ _ S.x (.nil _) n n_h 4 ⟨by omega, by omega⟩ (by omega)) cB13)<|la (av rfl)) ?_; clear S; intro a u S
 refine wp_block ?_
 refine lp2 (fun (sx : ByteArray) (ii : Int) => [(1, .string tx), (7, pT T14 0), (10, .string sx), (11, iI ii)]) (fun (sx : ByteArray) (ii : Int) => [tpO 58 T14 l]) (fun (sx : ByteArray) (ii : Int) => (-1 ≤ ii ∧ ii ≤ 3) ∧ (sx.size : Int) ≤ (3 - ii) * 200) (fun (sx : ByteArray) (ii : Int) => (ii + 1).toNat) S (⟨#[]⟩) (n % 18446744073709551616 % 4) (subM rfl) rfl ?_ ?_
 ·exact ⟨⟨by omega, by omega⟩, by show ((0 : Nat) : Int) ≤ _; omega⟩
 clear S; intro sx ii a u S hR
 obtain ⟨⟨hi0, hi1⟩, hsx⟩ := hR
 refine wp_seq ?_
 refine rs S (tr (mv rfl)<|la (geqi rfl rfl)) ?_; clear S; intro a u S
 refine cd S rfl ?_ ?_
 ·intro hc2
  refine wp_skip (then_n (wp_seq (wp_block (wp_seq ?_))))
  refine rs S (la (av rfl)) ?_; clear S; intro a u S
  refine wp_block ?_
  refine lp2 (fun (sy : ByteArray) (j1 : Nat) => [(1, .string tx), (7, pT T14 0), (11, iI ii), (33, iI ii), (34, bD (0 ≤ ii)), (10, .string sy), (12, iN j1)]) (fun (sy : ByteArray) (j1 : Nat) => [tpO 58 T14 l]) (fun (sy : ByteArray) (j1 : Nat) => j1 ≤ 63 ∧ sy.size ≤ sx.size + 2 * j1) (fun (sy : ByteArray) (j1 : Nat) => 63 - j1) S sx 0 (subM rfl) rfl ?_ ?_
  ·exact ⟨by omega, by omega⟩
  clear S; intro sy j1 a u S hR
  obtain ⟨hj0, hsy⟩ := hR
  refine wp_seq ?_
  refine rs S (tr (mv rfl)<|la (lssi rfl rfl)) ?_; clear S; intro a u S
  refine cd S rfl ?_ ?_
  ·intro hc3
   refine wp_skip (then_n (wp_seq (wp_block ?_)))
   refine rg S (tr (mv rfl)<|tr (ov fun S=>x_sadd (S.e rfl) (S.e rfl) (by first | omega | (simp only [ByteArray.size_append, ba_sz, List.size_toArray, List.length_cons, List.length_nil]; omega)))<|la (av rfl)) ?_; clear S; intro a u S
   refine blk_n (then_n ?_)
   refine rg S (tr (mv rfl)<|tr (addi ((j1 + 1 : Nat) : Int) rfl rfl (w_i64 (by omega)))<|la (av rfl)) ?_; clear S; intro a u S
   refine then_n ?_
   refine ⟨(sy ++ ⟨#[97, 32]⟩), (j1 + 1), S.re (subM rfl) rfl rfl, ?_, ?_⟩
   ·refine ⟨by omega, ?_⟩
    first | omega | (simp only [ByteArray.size_append, ba_sz, List.size_toArray, List.length_cons, List.length_nil]; omega)
   omega
  intro hc4
  refine wp_exit (then_e (then_e (blk_e (then_n (r0 ?_)))))
  refine sp S (la (mv rfl)) ?_; clear S; intro a u S
  refine nbs strE S ([⟨#[98, 10]⟩, ⟨#[98, 32, 99, 10]⟩, ⟨#[10]⟩] : List ByteArray) (x_bs S [(0, .string (⟨#[98, 10]⟩)), (1, .string (⟨#[98, 32, 99, 10]⟩)), (2, .string (⟨#[10]⟩))] uT29 iZ9) (fun x hx => by simp only [List.mem_cons, List.not_mem_nil, or_false] at hx; rcases hx with hx | hx | hx <;> rw [hx] <;> first | exact (show strE.wf _ _ (⟨#[98, 10]⟩) from (show (⟨#[98, 10]⟩ : ByteArray).size ≤ maxLen from by unfold maxLen; decide)) | exact (show strE.wf _ _ (⟨#[98, 32, 99, 10]⟩) from (show (⟨#[98, 32, 99, 10]⟩ : ByteArray).size ≤ maxLen from by unfold maxLen; decide)) | exact (show strE.wf _ _ (⟨#[10]⟩) from (show (⟨#[10]⟩ : ByteArray).size ≤ maxLen from by unfold maxLen; decide))) ?_; clear S; intro a u b44 S
  refine sp S (la (mv rfl)) ?_; clear S; intro a u S
  refine cl S (gNext _ _ S.x T14 (S.M.pick [0] (by decide)) l (dn1 (js := [0]) (S.u 0 rfl)) (S.t 0 rfl) 3 ⟨by omega, by omega⟩) cB14 ?_
  rintro e u ⟨r_t46, rfl, hr_t46, tK, T0⟩; refine ⟨_, rfl, fun a s => ?_⟩
  replace S := S.k1 0 rfl s T0 tK; clear s T0 tK
  refine sp S (tr (idxi uT29 sZ9 rfl rfl (r_t46).toNat (by omega) (by first | omega | (simp only [List.length_cons, List.length_nil]; omega)) ((show LAt strE _ _ (some ⟨b44, 0, none⟩) ([⟨#[98, 10]⟩, ⟨#[98, 32, 99, 10]⟩, ⟨#[10]⟩] : List ByteArray) from ((S.u 2 rfl)).1).adr (i := (r_t46).toNat) (by first | omega | (simp only [List.length_cons, List.length_nil]; omega))))<|la (ov fun S=>x_load sC9 (S.e rfl) ((show LAt strE _ _ (some ⟨b44, 0, none⟩) ([⟨#[98, 10]⟩, ⟨#[98, 32, 99, 10]⟩, ⟨#[10]⟩] : List ByteArray) from ((S.u 2 rfl)).1).cell (r_t46).toNat (by first | omega | (simp only [List.length_cons, List.length_nil]; omega)) 0 _ rfl))) ?_; clear S; intro a u S
  obtain ⟨z16, hz16, hzs16⟩ : ∃ z : ByteArray, z = (([⟨#[98, 10]⟩, ⟨#[98, 32, 99, 10]⟩, ⟨#[10]⟩] : List ByteArray).getD ((r_t46).toNat) strE.dflt) ∧ z.size ≤ 4 := ⟨_, rfl, lit_le (by decide) _⟩
  rw [← hz16] at S; clear hz16
  refine en S (tr (ov fun S=>x_sadd (S.e rfl) (S.e rfl) (by first | omega | (simp only [ByteArray.size_append, ba_sz, List.size_toArray, List.length_cons, List.length_nil]; omega)))<|la (av rfl)) ?_; clear S; intro a u S
  refine blk_n (then_n ?_)
  refine rg S (tr (mv rfl)<|tr (subi (ii - 1) rfl rfl (w_i64 (by omega)))<|la (av rfl)) ?_; clear S; intro a u S
  refine then_n ?_
  refine ⟨(sy ++ z16), (ii - 1), S.re (subM rfl) rfl rfl, ?_, ?_⟩
  ·refine ⟨⟨by omega, by omega⟩, ?_⟩
   first | omega | (simp only [ByteArray.size_append, ba_sz, List.size_toArray, List.length_cons, List.length_nil]; omega)
  omega
 intro hc5
 refine wp_exit (then_e (then_e (blk_e (then_n (rs0 ?_)))))
 refine sp S (tr (mv rfl)<|tr (oc (fun S=>lLines _ _ S.x (.nil _) sx (show inStr sx from (by unfold inStr maxLen; omega)) (S.gl 1 rfl)) cB11)<|tr (mv rfl)<|la (gon 52 rfl fun S=>x_move (S.e rfl))) ?_; clear S; intro a u S
 refine strip S.s rfl rfl (gd := 52) rfl ?_
 refine sp S (tr (oc (fun S=>lLines _ _ S.x (.nil _) tx tx_h (S.gl 1 rfl)) cB11)<|tr (ov fun S=>x_pickt (S.e rfl) (S.e rfl))<|la (mv rfl)) ?_; clear S; intro a u S
 refine strip S.s rfl rfl (gd := 56) rfl ?_
 refine ens S (tr (oc (fun S=>lSane _ _ S.x (.nil _) (S.gl 1 rfl)) cB15)<|tr (ov fun S=>x_pickt (S.e rfl) (S.e rfl))<|la (av rfl)) ?_; clear S; intro a u S
 refine wp_ret ?_
 refine ret1 rfl S.s rfl ?_
 replace S := S.pk []
 refine ⟨(r1 (vt ?_)), S.m.c⟩
 first | assumption | trivial | omega | simp_all
end Go.Proofs.YtmaiillomoehgaaDoor.V
