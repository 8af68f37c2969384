/- paths: the distances -/
import Derived.Test.YtfanmniaolncbaaW34
import Derived.Test.YtfanmniaolncbaaDijM
import Derived.Test.YtfanmniaolncbaaNextM
import Derived.Test.YtfanmniaolncbaaW12
import Derived.Test.YtfanmniaolncbaaW9
namespace Go.Proofs.Ytfanmniaolncbaa.V
open Go.RowKit Go.Proofs.Ytfanmniaolncbaa
set_option linter.unusedVariables false
set_option linter.unusedSimpArgs false
def zero_86 : Value := .agg #[.slice none 0 0, .nilFunc]
theorem iZ86 : (Try.prog.info? 86).map (fun i => (i.zero, i.size, i.bytes)) = some (some zero_86, 2, 32) := by kernel_rfl
theorem other_to {n : Nat} {l : Lnk} {d : Int} (hl : lnkV n l) (h : l.a = d ∨ l.b = d) : (0 ≤ otherTo l d ∧ otherTo l d < n) ∧ joins l d (otherTo l d) := by
 unfold lnkV at hl; unfold otherTo joins; split <;> (try split) <;> omega
theorem joins_to {n : Nat} {l : Lnk} {s a : Int} (hl : lnkV n l) (h : joins l s a) : (l.a = s ∨ l.b = s) ∧ otherTo l s = a := by
 unfold lnkV at hl; unfold joins at h; unfold otherTo; split <;> (try split) <;> omega
set_option maxHeartbeats 2000000 in
set_option maxRecDepth 20000 in
theorem pDist (w : World) (F : Nat → Prop) (hF : Old F w) (M : MS [] w) (t : Topo) (t_w : topoE.wf (Fr F []) w.heap t) (f : Fail) (f_w : failE.wf (Fr F []) w.heap f) (dz : Int) (dz_h : inI64 dz) :
 Calls Try.prog 38 #[.agg (topoE.cells t).toArray, .agg (failE.cells f).toArray, iI dz] w fun e w' => ∃ (ra : Option Addr) (rc : Nat), e = .returned (.slice ra ((distV t f dz).length) rc) ∧ (slE intE).wf (Fr F []) w'.heap (Sl.mk ra rc (distV t f dz)) ∧ Tr [] w [] w' := by
 have : t.devs.xs.length ≤ 9223372036854775807 := (t_w.1).1.len
 have : t.links.xs.length ≤ 9223372036854775807 := (t_w.2.1).1.len
 have : t.edges.xs.length ≤ 9223372036854775807 := (t_w.2.2.1).1.len
 have : t.pools.xs.length ≤ 9223372036854775807 := (t_w.2.2.2.1).1.len
 obtain ⟨_, _⟩ : inI64 t.tol := t_w.2.2.2.2
 have : f.links.xs.length ≤ 9223372036854775807 := (f_w.1).1.len
 have : f.devs.xs.length ≤ 9223372036854775807 := (f_w.2).1.len
 obtain ⟨dz_hl, dz_hu⟩ : inI64 dz := id dz_h
 have ho0 : HeapO ([] : List Vis) := fun i h0 h1 => by simp at h1
 refine go Try.func38 rfl 112 rfl [wfF topoE t, wfF failE f] [] hF M ⟨t_w, f_w, trivial⟩ trivial ?_
 intro a S
 refine rs0 ?_
 refine nbp S (x_box _ (S.e rfl) rfl) ?_; clear S; intro a u b3 S
 refine nbp S (x_box _ (S.e rfl) rfl) ?_; clear S; intro a u b4 S
 refine ens S (la (av rfl)) ?_; clear S; intro a u S
 refine wp_seq (rs0 ?_)
 refine sp S (tr (ldkw 0 rfl rfl wD28)<|tr (ldkw 1 rfl rfl wD41)<|la (mv rfl)) ?_; clear S; intro a u S
 refine nbs intE S [dz] (x_bs S [(0, iI dz)] uT22 iZ3) (fun x hx => by simp only [List.mem_cons, List.not_mem_nil, or_false] at hx; rw [hx]; exact (show intE.wf _ _ dz from dz_h)) ?_; clear S; intro a u b21 S
 refine ens S (tr (oc (fun S=>pKnown _ _ S.x (.nil _) t (dn0 (S.u 0 rfl)) f (dn0 (S.u 1 rfl)) (Sl.mk (some ⟨b21, 0, none⟩) 1 ([dz])) (dn0 (S.u 2 rfl))) cB68)<|la (noti rfl)) ?_; clear S; intro a u S
 refine cd S rfl ?_ ?_
 ·intro hc0
  refine rs S (la (av rfl)) ?_; clear S; intro a u S
  refine wp_ret (then_r ?_)
  refine ret1 rfl S.s rfl ?_
  replace S := S.pk []
  have hx4 : distV t f dz = [] := by
   unfold distV; exact if_neg fun h => hc0 (known1.2 h)
  rw [hx4]
  refine ⟨none, 0, rfl, sl_nil, S.m.c⟩
 intro hc1
 have hD := known1.1 (Classical.not_not.1 hc1)
 have HV := hD.1.1
 have hz0 := hD.1.2
 have hz1 := hD.2
 have hB : topB t := HV.1.1.1
 unfold topB at hB
 have hzt : ((dz.toNat : Nat) : Int) = dz := by omega
 refine wp_skip (then_n (rs0 ?_))
 have hn6 : t.devs.xs.length ≤ 9223372036854775807 := ((S.u 0 rfl).1).1.len
 refine sp S (tr (fldi 0 0 rfl uT28)<|tr (ldk 0 sC23 rfl rfl rfl)<|la (leni uT23 rfl)) ?_; clear S; intro a u S
 refine mk (E := intE) S (0 : Int) t.devs.xs.length uT22 iZ3 rfl rfl rfl rfl (by omega) (by unfold maxLen; omega) (fun _ _ => by first | exact ⟨by omega, by omega⟩ | trivial | exact sl_nil) ?_; clear S; intro a u ad27 S
 have hrl27 : (List.replicate t.devs.xs.length (0 : Int)).length = t.devs.xs.length := List.length_replicate
 refine ens S (la (av rfl)) ?_; clear S; intro a u S
 refine wp_seq ?_
 refine rs S (tr (mv rfl)<|tr (leni uT22 rfl)<|la (mv rfl)) ?_; clear S; intro a u S
 refine wp_block ?_
 refine lp4 (fun (k : Nat) (out_a : Option Addr) (out_c : Nat) (out : List Int) => [(2, iI dz), (3, pT b3 0), (4, pT b4 0), (6, .slice none 0 0), (7, .slice out_a out.length out_c), (29, iN (List.replicate t.devs.xs.length (0 : Int)).length), (30, iN k)]) (fun (k : Nat) (out_a : Option Addr) (out_c : Nat) (out : List Int) => [blO b3 (topoE.cells t) 28, blO b4 (failE.cells f) 41, rwO intE 3 w.heap.size out_a out_c out]) (fun (k : Nat) (out_a : Option Addr) (out_c : Nat) (out : List Int) => k ≤ t.devs.xs.length ∧ out.length = t.devs.xs.length ∧ ∀ d, d < k → out.getD d 0 = -1) (fun (k : Nat) (out_a : Option Addr) (out_c : Nat) (out : List Int) => t.devs.xs.length - k) S 0 ad27 t.devs.xs.length (List.replicate t.devs.xs.length (0 : Int)) (subM rfl) rfl ?_ ?_
 ·exact ⟨Nat.zero_le _, by simp, fun d h => by omega⟩
 clear S; intro k out_a out_c out a u S hR
 have out_len := (S.row 2 rfl).len_le; simp only [maxLen] at out_len
 obtain ⟨hk, hol, hoe⟩ := hR
 refine rs S (la (lssi rfl rfl)) ?_; clear S; intro a u S
 refine wp_seq ?_
 refine cd S rfl ?_ ?_
 ·intro hc2
  refine wp_skip (then_n (wp_seq (wp_block ?_)))
  refine rs S (tr (mv rfl)<|la (av rfl)) ?_; clear S; intro a u S
  refine r0 ?_
  refine sp S (tr (mv rfl)<|tr (mv rfl)<|la (ov fun S=>x_idx uT22 sZ3 (S.e rfl) (S.e rfl) k rfl (by omega) (row_off (S.row 2 rfl) (m := k) (by omega)))) ?_; clear S; intro a u S
  refine sp S (la (str (E := intE) 2 (by kernel_rfl) rfl rfl rfl k 0 (by omega) (by first | decide | exact Nat.one_pos) (-1) (fun S=>(show inI64 (-1) from ⟨by omega, by omega⟩)) rfl (by first | rfl | (show _ = _ * 1 + 0; omega) | (simp [intE]; omega) | simp [intE]) rfl)) ?_; clear S; intro a u S
  have hls11 : (out.set k (-1)).length = out.length := by simp
  refine nn (blk_n (then_n ?_))
  refine rg S (tr (addi ((k + 1 : Nat) : Int) rfl rfl (w_i64 (by omega)))<|la (mv rfl)) ?_; clear S; intro a u S
  refine then_n ?_
  refine ⟨(k + 1), out_a, out_c, (out.set k (-1)), S.re ⟨rfl, rfl, rfl, rfl, (by first | rfl | (simp only [List.length_set]; rfl)), rfl, rfl, trivial⟩ rfl rfl, ?_, ?_⟩
  ·refine ⟨by omega, by simp; omega, fun d hd => ?_⟩
   by_cases e : d = k
   ·subst e; exact getD_set_self (by omega)
   rw [getD_set_other (fun q => e q.symm)]; exact hoe d (by omega)
  omega
 intro hc3
 have hoa : ∀ d, d < t.devs.xs.length → out.getD d 0 = -1 := fun d hd => hoe d (by omega)
 have hal := alive_iff HV (i := dz.toNat) (by omega)
 rw [hzt] at hal
 refine wp_exit (then_e (then_e (blk_e (then_n (wp_seq ?_)))))
 refine rs S (tr (ldkw 0 rfl rfl wD28)<|tr (ldkw 1 rfl rfl wD41)<|tr (mv rfl)<|tr (oc (fun S=>fAlive _ _ S.x (.nil _) t (dn0 (S.u 0 rfl)) f (dn0 (S.u 1 rfl)) dz dz_h) cB34)<|la (noti rfl)) ?_; clear S; intro a u S
 refine cd S rfl ?_ ?_
 ·intro hc4
  refine rs S (tr (mv rfl)<|la (av rfl)) ?_; clear S; intro a u S
  refine wp_ret (then_r ?_)
  replace S := S.fz 2 rfl
  refine ret1 rfl S.s rfl ?_
  replace S := S.pk []
  have hx15 : distV t f dz = out := by
   unfold distV; rw [if_pos hD]; exact dists_is hol fun d hd => by rw [hoa d hd, dists_dead (by rw [hzt]; exact Classical.byContradiction fun e => hc4 (hal.2 e))]
  rw [hx15]
  refine ⟨out_a, out_c, rfl, (S.u 3 rfl), S.m.c⟩
 intro hc5
 have hza := hal.1 (Classical.not_not.1 hc5)
 have hD0 := DjI.start HV.1.1 (z := dz.toNat) (by omega) (by rw [hzt]; exact hza) hol hoa
 rw [hzt] at hD0
 refine wp_skip (then_n ?_)
 refine rs S (la (av rfl)) ?_; clear S; intro a u S
 refine wp_seq ?_
 have hn18 : t.links.xs.length ≤ 9223372036854775807 := ((S.u 0 rfl).2.1).1.len
 refine rs S (tr (fldi 0 1 rfl uT28)<|tr (ldk 0 sC24 rfl rfl rfl)<|tr (leni uT24 rfl)<|la (mv rfl)) ?_; clear S; intro a u S
 refine wp_block ?_
 replace S := S.nr lnkE 54
 refine lp4 (fun (k : Nat) (us_a : Option Addr) (us_c : Nat) (us : List Lnk) => [(2, iI dz), (3, pT b3 0), (4, pT b4 0), (6, .slice none 0 0), (7, .slice out_a out.length out_c), (44, sV t.links), (45, iN t.links.xs.length), (46, iN k), (9, .slice us_a us.length us_c)]) (fun (k : Nat) (us_a : Option Addr) (us_c : Nat) (us : List Lnk) => [blO b3 (topoE.cells t) 28, blO b4 (failE.cells f) 41, rwO intE 3 w.heap.size out_a out_c out, rwO lnkE 54 w.heap.size us_a us_c us]) (fun (k : Nat) (us_a : Option Addr) (us_c : Nat) (us : List Lnk) => k ≤ t.links.xs.length ∧ us = usl t f k) (fun (k : Nat) (us_a : Option Addr) (us_c : Nat) (us : List Lnk) => t.links.xs.length - k) S 0 none 0 ([]) (subM rfl) rfl ?_ ?_
 ·exact ⟨Nat.zero_le _, rfl⟩
 clear S; intro k us_a us_c us a u S hR
 have us_len := (S.row 3 rfl).len_le; simp only [maxLen] at us_len
 obtain ⟨hk, hus⟩ := hR
 have husl : us.length ≤ k := by rw [hus]; exact usl_len
 refine rs S (la (lssi rfl rfl)) ?_; clear S; intro a u S
 refine wp_seq ?_
 refine cd S rfl ?_ ?_
 ·intro hc6
  refine wp_skip (then_n (wp_seq (wp_block (rs0 ?_))))
  obtain ⟨hl21, hu21⟩ : inI64 ((t.links.xs.getD k lnkE.dflt).a) := id ((((S.u 0 rfl).2.1).1.wf k (by omega)).1)
  obtain ⟨hl22, hu22⟩ : inI64 ((t.links.xs.getD k lnkE.dflt).b) := id ((((S.u 0 rfl).2.1).1.wf k (by omega)).2.1)
  obtain ⟨hl23, hu23⟩ : inI64 ((t.links.xs.getD k lnkE.dflt).cost) := id ((((S.u 0 rfl).2.1).1.wf k (by omega)).2.2)
  refine sp S (tr (mv rfl)<|tr (idxi uT24 sZ54 rfl rfl k rfl (by omega) (((S.u 0 rfl).2.1).1.adr (i := k) (by omega)))<|la (ov fun S=>x_ldw (S.e rfl) (((S.u 0 rfl).2.1).1.wcell k (by omega) _ rfl _ rfl) wD54)) ?_; clear S; intro a u S
  refine nbp S (x_allocz _ iZ54 rfl) ?_; clear S; intro a u b11 S
  refine ens S (tr (av rfl)<|la (stkw 4 rfl rfl rfl)) ?_; clear S; intro a u S
  refine rs S (tr (ldkw 0 rfl rfl wD28)<|tr (ldkw 1 rfl rfl wD41)<|tr (mv rfl)<|la (oc (fun S=>fUsable _ _ S.x (.nil _) t (dn0 (S.u 0 rfl)) f (dn0 (S.u 1 rfl)) ((k : Nat) : Int) ⟨by omega, by omega⟩) cB28)) ?_; clear S; intro a u S
  refine cd S rfl ?_ ?_
  ·intro hc7
   refine r0 ?_
   refine sp S (tr (mv rfl)<|la (ldkw 4 rfl rfl wD54)) ?_; clear S; intro a u S
   refine nbs lnkE S [(t.links.xs.getD k lnkE.dflt)] (x_bs S [(0, .agg (lnkE.cells (t.links.xs.getD k lnkE.dflt)).toArray)] uT24 iZ54) (fun x hx => by simp only [List.mem_cons, List.not_mem_nil, or_false] at hx; rw [hx]; exact (show lnkE.wf _ _ (t.links.xs.getD k lnkE.dflt) from ⟨(((S.u 0 rfl).2.1).1.wf k (by omega)).1, (((S.u 0 rfl).2.1).1.wf k (by omega)).2.1, (((S.u 0 rfl).2.1).1.wf k (by omega)).2.2⟩)) ?_; clear S; intro a u b57 S
   refine ap (E := lnkE) (ys := [(t.links.xs.getD k lnkE.dflt)]) S 3 rfl uT24 iZ54 rfl rfl (show LAt lnkE _ _ (some ⟨b57, 0, none⟩) ([(t.links.xs.getD k lnkE.dflt)]) from ((S.u 3 rfl)).1) ((S.u 3 rfl)).2.2 (LAt.mem (show LAt lnkE _ _ (some ⟨b57, 0, none⟩) ([(t.links.xs.getD k lnkE.dflt)]) from ((S.u 3 rfl)).1)) ⟨by unfold maxLen; (try simp only [List.length_cons, List.length_nil, List.length_append, List.length_map]); omega, by (try simp only [List.length_cons, List.length_nil, List.length_append, List.length_map]); omega⟩ ?_; clear S; intro a u ad58 cap58 S
   refine en S (la (av rfl)) ?_; clear S; intro a u S
   refine blk_n (then_n ?_)
   refine rg S (tr (addi ((k + 1 : Nat) : Int) rfl rfl (w_i64 (by omega)))<|la (mv rfl)) ?_; clear S; intro a u S
   refine then_n ?_
   refine ⟨(k + 1), ad58, cap58, (us ++ [(t.links.xs.getD k lnkE.dflt)]), S.re (subM rfl) rfl rfl, ?_, ?_⟩
   ·have hiu := usable_iff HV (i := k) (by omega)
    first
    | exact ⟨by omega, by rw [usl_no fun e => hc7 (hiu.2 e)]; exact hus⟩
    | exact ⟨by omega, by rw [usl_yes (hiu.1 hc7), hus]; rfl⟩
   omega
  intro hc8
  refine wp_skip (blk_n (then_n ?_))
  refine rg S (tr (addi ((k + 1 : Nat) : Int) rfl rfl (w_i64 (by omega)))<|la (mv rfl)) ?_; clear S; intro a u S
  refine then_n ?_
  refine ⟨(k + 1), us_a, us_c, us, S.re (subM rfl) rfl rfl, ?_, ?_⟩
  ·have hiu := usable_iff HV (i := k) (by omega)
   first
   | exact ⟨by omega, by rw [usl_no fun e => hc8 (hiu.2 e)]; exact hus⟩
   | exact ⟨by omega, by rw [usl_yes (hiu.1 hc8), hus]; rfl⟩
  omega
 intro hc9
 have hus2 : us = usl t f t.links.xs.length := by rw [hus, show k = t.links.xs.length from by omega]
 refine wp_exit (then_e (then_e (blk_e (then_n (rs0 ?_)))))
 refine sp S (la (ov fun S=>x_bd S [(1, .func (.func 69) #[] #[])] [.slice none 0 0, .func (.func 69) #[] #[]])) ?_; clear S; intro a u S
 refine nbp S (x_allocz _ iZ86 rfl) ?_; clear S; intro a u b12 S
 refine ens S (la (stkw 4 rfl rfl rfl)) ?_; clear S; intro a u S
 refine rs0 ?_
 refine sp S (tr (mv rfl)<|la (ov fun S=>x_bd S [(0, iI dz)] [iI dz, iI 0])) ?_; clear S; intro a u S
 replace S := S.nr visE 82
 refine cl S (hPush _ _ S.x b12 none (S.M.pick [4, 5] (by decide)) 0 w.heap.size ([].length) ([]) S.bs0 (by first | rfl | assumption | omega) (S.k 4 rfl) ((S.row 5 rfl).dn1 (js := [4, 5])) (⟨dz, 0⟩ : Vis) ⟨dz_h, (show inI64 0 from ⟨by omega, by omega⟩)⟩ (by assumption) (by first | omega | exact Nat.zero_le _)) cB70 ?_
 rintro e u ⟨hat63, hct63, hnt63, hyt63, rfl, hlt63, kB, kR, hqt63, T0⟩; refine ⟨_, rfl, fun a s => ?_⟩
 subst hlt63
 replace S := S.k2 4 5 (by decide) rfl rfl (blO b12 [.slice hat63 hyt63.length hct63, .func (.func 69) #[] #[]] 86) (rwO visE 82 w.heap.size hat63 hct63 hyt63) s T0 (fun _ => kB) (fun W hW => kR.ret2 hW); clear s T0 kB kR
 refine ent (wp_seq (wp_block ?_))
 refine lp6 (fun (out2_a : Option Addr) (out2_c : Nat) (out2 : List Int) (hs_a : Option Addr) (hs_c : Nat) (hs : List Vis) => [(6, .slice none 0 0), (7, .slice out2_a out2.length out2_c), (9, .slice us_a us.length us_c), (12, pT b12 0)]) (fun (out2_a : Option Addr) (out2_c : Nat) (out2 : List Int) (hs_a : Option Addr) (hs_c : Nat) (hs : List Vis) => [blO b3 (topoE.cells t) 28, blO b4 (failE.cells f) 41, rwO intE 3 w.heap.size out2_a out2_c out2, rwO lnkE 54 w.heap.size us_a us_c us, blO b12 [.slice hs_a hs.length hs_c, .func (.func 69) #[] #[]] 86, rwO visE 82 w.heap.size hs_a hs_c hs]) (fun (out2_a : Option Addr) (out2_c : Nat) (out2 : List Int) (hs_a : Option Addr) (hs_c : Nat) (hs : List Vis) => DjI t f dz.toNat out2 hs ∧ HeapO hs ∧ hs.length + 25 * un t out2 ≤ 302) (fun (out2_a : Option Addr) (out2_c : Nat) (out2 : List Int) (hs_a : Option Addr) (hs_c : Nat) (hs : List Vis) => hs.length + 25 * un t out2) S out_a out_c out hat63 hct63 hyt63 (subM rfl) rfl ?_ ?_
 ·have hpl := hqt63.2.length_eq
  simp only [List.length_cons, List.length_nil] at hpl
  have hul := un_le (t := t) (out := out)
  exact ⟨hD0.perm hqt63.2, hqt63.1, by omega⟩
 clear S; intro out2_a out2_c out2 hs_a hs_c hs a u S hR
 have out2_len := (S.row 2 rfl).len_le; simp only [maxLen] at out2_len
 have hs_len := (S.row 5 rfl).len_le; simp only [maxLen] at hs_len
 obtain ⟨hD2, hho, hhb⟩ := hR
 have ho2 := hD2.len
 refine wp_seq ?_
 refine rs S (tr (fldi 0 0 rfl uT86)<|tr (ldk 4 sC84 rfl rfl rfl)<|tr (leni uT84 rfl)<|la (gtri rfl rfl)) ?_; clear S; intro a u S
 refine cd S rfl ?_ ?_
 ·intro hc10
  refine wp_skip (then_n (wp_block (rs0 ?_)))
  refine cl S (hPop _ _ S.x b12 hs_a (S.M.pick [4, 5] (by decide)) hs_c w.heap.size hs.length hs S.bs0 (by first | rfl | assumption | omega) (S.k 4 rfl) ((S.row 5 rfl).dn1 (js := [4, 5])) (by assumption) (⟨by omega, by omega⟩)) cB71 ?_
  rintro e u ⟨r_t68, hat68, hct68, hnt68, hyt68, rfl, R_t68, hlt68, kB, kR, hqt68, T0⟩; refine ⟨_, rfl, fun a s => ?_⟩
  subst hlt68
  replace S := (S.k2 4 5 (by decide) rfl rfl (blO b12 [.slice hat68 hyt68.length hct68, .func (.func 69) #[] #[]] 86) (rwO visE 82 w.heap.size hat68 hct68 hyt68) s T0 (fun _ => kB) (fun W hW => kR.ret2 hW)).ar (wfF visE r_t68) R_t68; clear s T0 kB kR
  obtain ⟨hpo, hpp, hpm⟩ := hqt68
  have hD3 := hD2.perm hpp.symm
  have hpl := hpp.length_eq
  simp only [List.length_cons] at hpl
  obtain ⟨dv, dc, he1, he2, hw, hdc⟩ := hD3.ent _ List.mem_cons_self
  have hdv := hw.lt HV.1.1
  obtain rfl : dv = (r_t68.dev).toNat := by omega
  obtain ⟨hl32, hu32⟩ : inI64 r_t68.dev := id ((S.u 3 rfl).1)
  obtain ⟨hl33, hu33⟩ : inI64 r_t68.dist := id ((S.u 3 rfl).2)
  refine nbp S (x_allocz _ iZ82 rfl) ?_; clear S; intro a u b13 S
  refine ens S (la (stkw 6 rfl rfl rfl)) ?_; clear S; intro a u S
  refine wp_seq ?_
  obtain ⟨hl35, hu35⟩ : inI64 (out2.getD ((r_t68.dev).toNat) intE.dflt) := id ((S.row 2 rfl).wfi (r_t68.dev).toNat (by omega))
  refine rs S (tr (mv rfl)<|tr (fldi 0 0 rfl uT82)<|tr (ldk 6 sC3 rfl rfl rfl)<|tr (ov fun S=>x_idx uT22 sZ3 (S.e rfl) (S.e rfl) (r_t68.dev).toNat (by omega) (by omega) (row_off (S.row 2 rfl) (m := (r_t68.dev).toNat) (by omega)))<|tr (ov fun S=>x_load sC3 (S.e rfl) (((S.row 2 rfl).latz (by first | decide | exact Nat.one_pos)).cell (r_t68.dev).toNat (by omega) 0 _ rfl))<|la (geqi rfl rfl)) ?_; clear S; intro a u S
  refine cd S rfl ?_ ?_
  ·intro hc11
   replace hc11 : 0 ≤ out2.getD (r_t68.dev).toNat 0 := hc11
   refine wp_exit (then_e (blk_e (then_n ?_)))
   refine ⟨out2_a, out2_c, out2, hat68, hct68, hyt68, S.re (subM rfl) rfl rfl, ?_, ?_⟩
   ·first | exact ⟨DjI.skip hD3 he1 hc11, hpo, by omega⟩ | exact ⟨hDe, hh2, by omega⟩
   omega
  intro hc12
  replace hc12 : ¬ 0 ≤ out2.getD (r_t68.dev).toNat 0 := hc12
  obtain ⟨hsl, hsd, hs0, hJ0⟩ := DjI.settle hD3 HV.1.1 hpm he1 (by omega)
  have hun := un_set (t := t) (v := r_t68.dist) hsl hD2.len (by omega) (by omega)
  refine wp_skip (then_n (rs0 ?_))
  refine sp S (tr (mv rfl)<|tr (fldi 0 0 rfl uT82)<|tr (ldk 6 sC3 rfl rfl rfl)<|tr (fldi 0 1 rfl uT82)<|tr (ldk 6 sC3 rfl rfl rfl)<|la (ov fun S=>x_idx uT22 sZ3 (S.e rfl) (S.e rfl) (r_t68.dev).toNat (by omega) (by omega) (row_off (S.row 2 rfl) (m := (r_t68.dev).toNat) (by omega)))) ?_; clear S; intro a u S
  refine sp S (la (str (E := intE) 2 (by kernel_rfl) rfl rfl rfl (r_t68.dev).toNat 0 (by omega) (by first | decide | exact Nat.one_pos) r_t68.dist (fun S=>(S.u 3 rfl).2) rfl (by first | rfl | (show _ = _ * 1 + 0; omega) | (simp [intE]; omega) | simp [intE]) rfl)) ?_; clear S; intro a u S
  have hls37 : (out2.set (r_t68.dev).toNat r_t68.dist).length = out2.length := by simp
  refine ent ?_
  refine rs S (tr (mv rfl)<|tr (leni uT24 rfl)<|la (mv rfl)) ?_; clear S; intro a u S
  refine wp_block ?_
  refine lp4 (fun (j : Nat) (h2_a : Option Addr) (h2_c : Nat) (h2 : List Vis) => [(6, .slice none 0 0), (7, .slice out2_a out2.length out2_c), (9, .slice us_a us.length us_c), (12, pT b12 0), (64, pT b12 (0 + 0)), (65, .slice hs_a hs.length hs_c), (66, iN hs.length), (67, bD (0 < ((hs.length : Nat) : Int))), (68, .agg (visE.cells r_t68).toArray), (13, pT b13 0), (69, .slice out2_a out2.length out2_c), (70, pT b13 (0 + 0)), (71, iI r_t68.dev), (72, pT (blk out2_a) (0 + (r_t68.dev).toNat * 1)), (73, iI (out2.getD ((r_t68.dev).toNat) intE.dflt)), (74, bD (0 ≤ (out2.getD ((r_t68.dev).toNat) intE.dflt))), (75, .slice out2_a out2.length out2_c), (76, pT b13 (0 + 0)), (77, iI r_t68.dev), (78, pT b13 (0 + 1)), (79, iI r_t68.dist), (80, pT (blk out2_a) (0 + (r_t68.dev).toNat * 1)), (81, .slice us_a us.length us_c), (82, iN us.length), (83, iN j)]) (fun (j : Nat) (h2_a : Option Addr) (h2_c : Nat) (h2 : List Vis) => [blO b3 (topoE.cells t) 28, blO b4 (failE.cells f) 41, rwO intE 3 w.heap.size out2_a out2_c (out2.set (r_t68.dev).toNat r_t68.dist), rwO lnkE 54 w.heap.size us_a us_c us, blO b12 [.slice h2_a h2.length h2_c, .func (.func 69) #[] #[]] 86, rwO visE 82 w.heap.size h2_a h2_c h2, blO b13 (visE.cells r_t68) 82]) (fun (j : Nat) (h2_a : Option Addr) (h2_c : Nat) (h2 : List Vis) => j ≤ us.length ∧ DjJ t f dz.toNat (out2.set (r_t68.dev).toNat r_t68.dist) h2 (r_t68.dev).toNat j ∧ HeapO h2 ∧ h2.length + 1 ≤ hs.length + j) (fun (j : Nat) (h2_a : Option Addr) (h2_c : Nat) (h2 : List Vis) => us.length - j) S 0 hat68 hct68 hyt68 (subM rfl) rfl ?_ ?_
  ·exact ⟨Nat.zero_le _, hJ0, hpo, by omega⟩
  clear S; intro j h2_a h2_c h2 a u S hR
  have h2_len := (S.row 5 rfl).len_le; simp only [maxLen] at h2_len
  obtain ⟨hj, hJ, hh2, hhl⟩ := hR
  refine rs S (la (lssi rfl rfl)) ?_; clear S; intro a u S
  refine wp_seq ?_
  refine cd S rfl ?_ ?_
  ·intro hc13
   have hlv : lnkV t.devs.xs.length (us.getD j lnkE.dflt) := usl_ends HV.1.1 (by rw [← hus2]; exact getD_mem (by omega))
   have hlv2 := hlv; unfold lnkV at hlv2
   have hob := other_bd (d := r_t68.dev) hlv
   refine wp_skip (then_n (wp_seq (wp_block (rs0 ?_))))
   obtain ⟨hl41, hu41⟩ : inI64 ((us.getD j lnkE.dflt).a) := id (((S.row 3 rfl).wfi j (by omega)).1)
   obtain ⟨hl42, hu42⟩ : inI64 ((us.getD j lnkE.dflt).b) := id (((S.row 3 rfl).wfi j (by omega)).2.1)
   obtain ⟨hl43, hu43⟩ : inI64 ((us.getD j lnkE.dflt).cost) := id (((S.row 3 rfl).wfi j (by omega)).2.2)
   refine sp S (tr (ov fun S=>x_idx uT24 sZ54 (S.e rfl) (S.e rfl) j rfl (by omega) (row_off (S.row 3 rfl) (m := j) (by omega)))<|la (ov fun S=>x_ldw (S.e rfl) (((S.row 3 rfl).latz (by first | decide | exact Nat.one_pos)).wcell j (by omega) _ rfl _ rfl) wD54)) ?_; clear S; intro a u S
   refine nbp S (x_allocz _ iZ54 rfl) ?_; clear S; intro a u b15 S
   refine ens S (la (stkw 7 rfl rfl rfl)) ?_; clear S; intro a u S
   refine rs S (tr (ldkw 7 rfl rfl wD54)<|tr (fldi 0 0 rfl uT82)<|tr (ldk 6 sC3 rfl rfl rfl)<|tr (oc (fun S=>pOther _ _ S.x (.nil _) (us.getD j lnkE.dflt) (dn0 ((S.row 3 rfl).wfi j (by omega))) r_t68.dev (S.u 3 rfl).1) cB72)<|tr (mv rfl)<|tr (exi rfl rfl)<|tr (exi rfl rfl)<|tr (av rfl)<|la (av rfl)) ?_; clear S; intro a u S
   refine rs S (tr (mv rfl)<|tr (mv rfl)<|tr (og 95 rfl gt fun S hg=>x_move (S.e rfl))<|tr (og 95 rfl gt fun S hg=>x_move (S.e rfl))<|tr (og 95 rfl gt fun S hg=>x_idx uT22 sZ3 (S.p rfl hg) (S.p rfl hg) (otherTo (us.getD j lnkE.dflt) r_t68.dev).toNat (by omega) (by omega) (row_off (S.row 2 rfl) (m := (otherTo (us.getD j lnkE.dflt) r_t68.dev).toNat) (by omega)))<|tr (og 95 rfl gt fun S hg=>x_load sC3 (S.p rfl hg) (((S.row 2 rfl).latz (by first | decide | exact Nat.one_pos)).cell (otherTo (us.getD j lnkE.dflt) r_t68.dev).toNat (by omega) 0 _ rfl))<|tr (og 95 rfl gt fun S hg=>x_lss (S.p rfl hg) (S.e rfl))<|la (andi rfl rfl rfl)) ?_; clear S; intro a u S
   refine cd S rfl ?_ ?_
   ·intro hc14
    have hjn := (other_to hlv hc14.1).2
    have hpu := hJ.push HV.1.1 hs0 (a := (otherTo (us.getD j lnkE.dflt) r_t68.dev).toNat) (by rw [← hus2]; omega) (by rw [← hus2, ← he1, show (((otherTo (us.getD j lnkE.dflt) r_t68.dev).toNat : Nat) : Int) = otherTo (us.getD j lnkE.dflt) r_t68.dev from by omega]; exact hjn)
    rw [← hus2, ← hsd, show (((otherTo (us.getD j lnkE.dflt) r_t68.dev).toNat : Nat) : Int) = otherTo (us.getD j lnkE.dflt) r_t68.dev from by omega] at hpu
    refine r0 ?_
    refine sp S (tr (mv rfl)<|tr (fldi 0 1 rfl uT82)<|tr (ldk 6 sC3 rfl rfl rfl)<|tr (fldi 0 2 rfl uT54)<|tr (ldk 7 sC3 rfl rfl rfl)<|tr (addi (r_t68.dist + (us.getD j lnkE.dflt).cost) rfl rfl (w_i64 (by omega)))<|la (ov fun S=>x_bd S [(0, iI (otherTo (us.getD j lnkE.dflt) r_t68.dev)), (1, iI (r_t68.dist + (us.getD j lnkE.dflt).cost))] [iI (otherTo (us.getD j lnkE.dflt) r_t68.dev), iI (r_t68.dist + (us.getD j lnkE.dflt).cost)])) ?_; clear S; intro a u S
    refine cl S (hPush _ _ S.x b12 h2_a (S.M.pick [4, 5] (by decide)) h2_c w.heap.size h2.length h2 S.bs0 (by first | rfl | assumption | omega) (S.k 4 rfl) ((S.row 5 rfl).dn1 (js := [4, 5])) (⟨otherTo (us.getD j lnkE.dflt) r_t68.dev, (r_t68.dist + (us.getD j lnkE.dflt).cost)⟩ : Vis) ⟨(show inI64 (otherTo (us.getD j lnkE.dflt) r_t68.dev) from ⟨by omega, by omega⟩), (show inI64 (r_t68.dist + (us.getD j lnkE.dflt).cost) from ⟨by omega, by omega⟩)⟩ (by assumption) (by first | omega | exact Nat.zero_le _)) cB70 ?_
    rintro e u ⟨hat109, hct109, hnt109, hyt109, rfl, hlt109, kB, kR, hqt109, T0⟩; refine ⟨_, rfl, fun a s => ?_⟩
    subst hlt109
    replace S := S.k2 4 5 (by decide) rfl rfl (blO b12 [.slice hat109 hyt109.length hct109, .func (.func 69) #[] #[]] 86) (rwO visE 82 w.heap.size hat109 hct109 hyt109) s T0 (fun _ => kB) (fun W hW => kR.ret2 hW); clear s T0 kB kR
    refine nn (blk_n (then_n ?_))
    refine rg S (tr (addi ((j + 1 : Nat) : Int) rfl rfl (w_i64 (by omega)))<|la (mv rfl)) ?_; clear S; intro a u S
    refine then_n ?_
    refine ⟨(j + 1), hat109, hct109, hyt109, S.re (subM rfl) rfl rfl, ?_, ?_⟩
    ·first
     | (have hpl3 := hqt109.2.length_eq
        simp only [List.length_cons] at hpl3
        exact ⟨by omega, hpu.perm hqt109.2, hqt109.1, by omega⟩)
     | (refine ⟨by omega, hJ.pass fun a ha => ?_, hh2, by omega⟩
        rw [← hus2, ← he1] at ha
        have h1 := joins_to hlv ha
        refine Classical.byContradiction fun e => hc15 ⟨h1.1, ?_⟩
        rw [h1.2, Int.toNat_natCast]
        show (out2.set (r_t68.dev).toNat r_t68.dist).getD a 0 < 0
        omega)
    omega
   intro hc15
   refine wp_skip (blk_n (then_n ?_))
   refine rg S (tr (addi ((j + 1 : Nat) : Int) rfl rfl (w_i64 (by omega)))<|la (mv rfl)) ?_; clear S; intro a u S
   refine then_n ?_
   refine ⟨(j + 1), h2_a, h2_c, h2, S.re (subM rfl) rfl rfl, ?_, ?_⟩
   ·first
    | (have hpl3 := hqt109.2.length_eq
       simp only [List.length_cons] at hpl3
       exact ⟨by omega, hpu.perm hqt109.2, hqt109.1, by omega⟩)
    | (refine ⟨by omega, hJ.pass fun a ha => ?_, hh2, by omega⟩
       rw [← hus2, ← he1] at ha
       have h1 := joins_to hlv ha
       refine Classical.byContradiction fun e => hc15 ⟨h1.1, ?_⟩
       rw [h1.2, Int.toNat_natCast]
       show (out2.set (r_t68.dev).toNat r_t68.dist).getD a 0 < 0
       omega)
   omega
  intro hc16
  have hjl : j = (usl t f t.links.xs.length).length := by rw [← hus2]; omega
  rw [hjl] at hJ
  have hDe := hJ.done HV.1.1 hsl (by rw [getD_set_self (by omega)]; omega)
  refine wp_exit (then_e (then_e (blk_e (blk_n (then_n ?_)))))
  refine ⟨out2_a, out2_c, (out2.set (r_t68.dev).toNat r_t68.dist), h2_a, h2_c, h2, S.re ⟨rfl, (by first | rfl | (simp only [List.length_set]; rfl)), rfl, rfl, trivial⟩ rfl rfl, ?_, ?_⟩
  ·first | exact ⟨DjI.skip hD3 he1 hc11, hpo, by omega⟩ | exact ⟨hDe, hh2, by omega⟩
  omega
 intro hc17
 refine wp_exit (then_e (then_e (blk_e (then_n ?_))))
 refine rs S (tr (mv rfl)<|la (av rfl)) ?_; clear S; intro a u S
 refine wp_ret ?_
 replace S := S.fz 2 rfl
 refine ret1 rfl S.s rfl ?_
 replace S := S.pk []
 have hx50 : distV t f dz = out2 := by
  obtain rfl := List.eq_nil_of_length_eq_zero (show hs.length = 0 from by omega)
  unfold distV; rw [if_pos hD]; exact DjI.all hD2 HV.1.1
 rw [hx50]
 refine ⟨out2_a, out2_c, rfl, (S.u 3 rfl), S.m.c⟩
end Go.Proofs.Ytfanmniaolncbaa.V
