/- searching and inserting -/
import Derived.Test.YtobggnpnochnnaaIns
import Derived.Test.YtobggnpnochnnaaCrcM
namespace Go.Proofs.Ytobggnpnochnnaa.V
open Go.RowKit Go.Proofs.Ytobggnpnochnnaa
set_option linter.unusedVariables false
set_option linter.unusedSimpArgs false
set_option maxHeartbeats 2000000 in
set_option maxRecDepth 20000 in
theorem cmpNaN (w : World) (F : Nat → Prop) (hF : Old F w) (M : MS [] w) (x : Int) (x_h : inI64 x) :
 Calls Try.prog 134 #[iI x] w fun e w' => e = .returned (bD (False)) ∧ Tr [] w [] w' := by
 obtain ⟨x_hl, x_hu⟩ : inI64 x := id x_h
 refine go Try.func134 rfl 6 rfl [] [] hF M trivial trivial ?_
 intro a S
 have hD : ∀ k, In ([] : List BS) k → ¬ F k := fun _ h => h.elim
 refine rs S (la (av rfl)) ?_; clear S; intro a u S
 refine rs S (tr (mv rfl)<|tr (mv rfl)<|tr (neqi rfl rfl)<|la (av rfl)) ?_; clear S; intro a u S
 refine wp_ret ?_
 refine ret1 rfl S.s rfl ?_
 refine ⟨(r1 (vb ?_)), S.m.c⟩
 first | exact Iff.rfl | assumption | omega | simp_all
set_option maxHeartbeats 2000000 in
set_option maxRecDepth 20000 in
theorem sNaN (w : World) (F : Nat → Prop) (hF : Old F w) (M : MS [] w) (x : Int) (x_h : inI64 x) :
 Calls Try.prog 131 #[iI x] w fun e w' => e = .returned (bD (False)) ∧ Tr [] w [] w' := by
 obtain ⟨x_hl, x_hu⟩ : inI64 x := id x_h
 refine go Try.func131 rfl 6 rfl [] [] hF M trivial trivial ?_
 intro a S
 have hD : ∀ k, In ([] : List BS) k → ¬ F k := fun _ h => h.elim
 refine rs S (la (av rfl)) ?_; clear S; intro a u S
 refine rs S (tr (mv rfl)<|tr (mv rfl)<|tr (neqi rfl rfl)<|la (av rfl)) ?_; clear S; intro a u S
 refine wp_ret ?_
 refine ret1 rfl S.s rfl ?_
 refine ⟨(r1 (vb ?_)), S.m.c⟩
 first | exact Iff.rfl | assumption | omega | simp_all
set_option maxHeartbeats 2000000 in
set_option maxRecDepth 20000 in
theorem cmpLess (w : World) (F : Nat → Prop) (hF : Old F w) (M : MS [] w) (x : Int) (x_h : inI64 x) (y : Int) (y_h : inI64 y) :
 Calls Try.prog 130 #[iI x, iI y] w fun e w' => e = .returned (bD (x < y)) ∧ Tr [] w [] w' := by
 obtain ⟨x_hl, x_hu⟩ : inI64 x := id x_h
 obtain ⟨y_hl, y_hu⟩ : inI64 y := id y_h
 refine go Try.func130 rfl 17 rfl [] [] hF M trivial trivial ?_
 intro a S
 have hD : ∀ k, In ([] : List BS) k → ¬ F k := fun _ h => h.elim
 refine rs S (la (av rfl)) ?_; clear S; intro a u S
 refine rs S (tr (mv rfl)<|tr (oc (fun S=>cmpNaN _ _ S.x (.nil _) x x_h) cB134)<|tr (mv rfl)<|tr (og 7 rfl gt fun S hg=>x_move (S.e rfl))<|tr (ocg 7 rfl gt (fun S hg=>cmpNaN _ _ S.x (.nil _) y y_h) cB134 fun S=>⟨fun hg=>(S.p rfl hg), trivial⟩)<|tr (og 7 rfl gt fun S hg=>x_notp (S.p rfl hg))<|tr (andi rfl rfl rfl)<|tr (mv rfl)<|tr (og 12 rfl gf fun S hg=>x_move (S.e rfl))<|tr (og 12 rfl gf fun S hg=>x_move (S.e rfl))<|tr (og 12 rfl gf fun S hg=>x_lss (S.p rfl hg) (S.p rfl hg))<|tr (ori rfl rfl rfl)<|la (av rfl)) ?_; clear S; intro a u S
 refine wp_ret ?_
 refine ret1 rfl S.s rfl ?_
 refine ⟨(r1 (vb ?_)), S.m.c⟩
 first | exact Iff.rfl | assumption | omega | simp_all
theorem srt {l : List Int} (hs : l.Pairwise (· < ·)) {a b : Nat} (h : a ≤ b) (hb : b < l.length) : l.getD a intE.dflt ≤ l.getD b intE.dflt := by
 rcases Nat.eq_or_lt_of_le h with e | e
 ·subst e; exact Int.le_refl _
 have := List.pairwise_iff_getElem.1 hs a b (by omega) hb e
 rw [List.getD_eq_getElem?_getD, List.getD_eq_getElem?_getD, List.getElem?_eq_getElem (show a < l.length by omega), List.getElem?_eq_getElem hb]
 exact Int.le_of_lt this
theorem srch_lo {l : List Int} {v : Int} {i j hh : Nat} (hs : l.Pairwise (· < ·)) (h1 : i ≤ hh) (h2 : hh < j) (h3 : j ≤ l.length) (hc : l.getD hh intE.dflt < v) (hhi : ∀ k, j ≤ k → k < l.length → v ≤ l.getD k intE.dflt) : hh + 1 ≤ j ∧ j ≤ l.length ∧ (∀ k, k < hh + 1 → l.getD k intE.dflt < v) ∧ ∀ k, j ≤ k → k < l.length → v ≤ l.getD k intE.dflt :=
 ⟨h2, h3, fun k hk => Int.lt_of_le_of_lt (srt hs (show k ≤ hh by omega) (by omega)) hc, hhi⟩
theorem srch_hi {l : List Int} {v : Int} {i j hh : Nat} (hs : l.Pairwise (· < ·)) (h1 : i ≤ hh) (h2 : hh < j) (h3 : j ≤ l.length) (hlo : ∀ k, k < i → l.getD k intE.dflt < v) (hc : ¬ l.getD hh intE.dflt < v) : i ≤ hh ∧ hh ≤ l.length ∧ (∀ k, k < i → l.getD k intE.dflt < v) ∧ ∀ k, hh ≤ k → k < l.length → v ≤ l.getD k intE.dflt :=
 ⟨h1, by omega, hlo, fun k hk hk2 => Int.le_trans (Int.not_lt.1 hc) (srt hs hk hk2)⟩
theorem srch_in {l : List Int} {v : Int} {i j : Nat} (hs : l.Pairwise (· < ·)) (e : i = j) (hlo : ∀ k, k < i → l.getD k intE.dflt < v) (hhi : ∀ k, j ≤ k → k < l.length → v ≤ l.getD k intE.dflt) {A : Prop} (hA : ¬ A := by exact fun h => h.1) : (((i : Nat) : Int) < ((l.length : Nat) : Int) ∧ (l.getD i intE.dflt = v ∨ A)) ↔ v ∈ l := by
 subst e
 constructor
 ·rintro ⟨h1, h2⟩
  have h2' := h2.resolve_right hA
  rw [← h2']; exact getD_mem (d := intE.dflt) (i := i) (by omega)
 intro h
 obtain ⟨k, hk, e⟩ := List.getElem_of_mem h
 have e' : l.getD k intE.dflt = v := by rw [List.getD_eq_getElem?_getD, List.getElem?_eq_getElem hk]; exact e
 rcases Nat.lt_trichotomy k i with q | q | q
 ·have := hlo k q; omega
 ·subst q; exact ⟨by omega, .inl e'⟩
 have h1 := hhi i (Nat.le_refl _) (by omega)
 have h2 := List.pairwise_iff_getElem.1 hs i k (by omega) hk q
 rw [List.getD_eq_getElem?_getD, List.getElem?_eq_getElem (show i < l.length by omega)] at h1
 have h3 : v ≤ l[i] := h1
 omega
set_option maxHeartbeats 2000000 in
set_option maxRecDepth 20000 in
theorem sSearch (w : World) (F : Nat → Prop) (hF : Old F w) (M : MS [] w) (x : Sl Int) (x_w : (slE intE).wf (Fr F []) w.heap x) (v : Int) (v_h : inI64 v) (hs : x.xs.Pairwise (· < ·) ∧ x.xs.length ≤ 1000) :
 Calls Try.prog 126 #[sV x, iI v] w fun e w' => ∃ (r0 : Nat), e = .returned (.tuple #[iN r0, bD (v ∈ x.xs)]) ∧ (r0 ≤ x.xs.length ∧ (∀ k, k < r0 → x.xs.getD k intE.dflt < v) ∧ ∀ k, r0 ≤ k → k < x.xs.length → v ≤ x.xs.getD k intE.dflt) ∧ Tr [] w [] w' := by
 have : x.xs.length ≤ 9223372036854775807 := (x_w).1.len
 obtain ⟨v_hl, v_hu⟩ : inI64 v := id v_h
 obtain ⟨hs, hsl⟩ := hs
 refine go Try.func126 rfl 54 rfl [wfF (slE intE) x] [] hF M ⟨x_w, trivial⟩ trivial ?_
 intro a S
 have hD : ∀ k, In ([] : List BS) k → ¬ F k := fun _ h => h.elim
 refine rs S (tr (av rfl)<|la (av rfl)) ?_; clear S; intro a u S
 have hn3 : x.xs.length ≤ 9223372036854775807 := ((S.u 0 rfl)).1.len
 refine rs S (tr (mv rfl)<|tr (leni uT22 rfl)<|la (av rfl)) ?_; clear S; intro a u S
 refine rs S (tr (mv rfl)<|tr (av rfl)<|la (av rfl)) ?_; clear S; intro a u S
 refine wp_seq (wp_block ?_)
 refine lp2 (fun (i : Nat) (j : Nat) => [(0, sV x), (1, iI v), (4, iI 0), (5, .bool false), (6, iN x.xs.length), (7, iN i), (8, iN j)]) (fun (i : Nat) (j : Nat) => []) (fun (i : Nat) (j : Nat) => i ≤ j ∧ j ≤ x.xs.length ∧ (∀ k, k < i → x.xs.getD k intE.dflt < v) ∧ ∀ k, j ≤ k → k < x.xs.length → v ≤ x.xs.getD k intE.dflt) (fun (i : Nat) (j : Nat) => j - i) S 0 x.xs.length (subM rfl) rfl ?_ ?_
 ·exact ⟨Nat.zero_le _, Nat.le_refl _, fun k hk => by omega, fun k hk hk2 => by omega⟩
 clear S; intro i j a u S hR
 obtain ⟨hij, hjn, hlo, hhi⟩ := hR
 refine wp_seq ?_
 refine rs S (tr (mv rfl)<|tr (mv rfl)<|la (lssi rfl rfl)) ?_; clear S; intro a u S
 refine cd S rfl ?_ ?_
 ·intro hc0
  refine wp_skip (then_n (wp_block (rs0 ?_)))
  refine sp S (tr (mv rfl)<|tr (mv rfl)<|tr (addi ((i + j : Nat) : Int) rfl rfl (w_i64 (by omega)))<|tr (ov fun S=>x_conv uT3 uT40 (S.e rfl) (r := ((i + j : Nat) : Int)) (w_u64 (by omega)))<|tr (ov fun S=>x_shr (S.e rfl) (S.e rfl) (by omega))<|tr (ov fun S=>x_conv uT40 uT3 (S.e rfl) (r := (IntKind.i64.wrap (sHr .u64 ((i + j : Nat) : Int) 1))) rfl)<|la (av rfl)) ?_; clear S; intro a u S
  obtain ⟨hh, hhe, hh1, hh2⟩ : ∃ hh : Nat, ((hh : Nat) : Int) = (IntKind.i64.wrap (sHr .u64 ((i + j : Nat) : Int) 1)) ∧ i ≤ hh ∧ hh < j := ⟨(i + j) / 2, by rw [sHr_q (q := 2) rfl (by decide), show IntKind.i64.wrap (((i + j : Nat) : Int) / 2) = ((i + j : Nat) : Int) / 2 from w_i64 (by omega)]; omega, by omega, by omega⟩
  rw [← hhe] at S
  refine ent ?_
  obtain ⟨hl8, hu8⟩ : inI64 (x.xs.getD hh intE.dflt) := id (((S.u 0 rfl)).1.wf hh (by omega))
  refine rs S (tr (mv rfl)<|tr (mv rfl)<|tr (idxi uT22 sZ3 rfl rfl hh rfl (by omega) (((S.u 0 rfl)).1.adr (i := hh) (by omega)))<|tr (ov fun S=>x_load sC3 (S.e rfl) (((S.u 0 rfl)).1.cell hh (by omega) 0 _ rfl))<|tr (mv rfl)<|la (oc (fun S=>cmpLess _ _ S.x (.nil _) (x.xs.getD hh intE.dflt) (((S.u 0 rfl)).1.wf hh (by omega)) v v_h) cB130)) ?_; clear S; intro a u S
  refine cd S rfl ?_ ?_
  ·intro hc1
   refine rg S (tr (mv rfl)<|tr (addi ((hh + 1 : Nat) : Int) rfl rfl (w_i64 (by omega)))<|la (av rfl)) ?_; clear S; intro a u S
   refine blk_n (then_n ?_)
   refine ⟨hh + 1, j, S.re (subM rfl) rfl rfl, ?_, ?_⟩
   ·first | exact srch_lo hs hh1 hh2 hjn (by assumption) hhi | exact srch_hi hs hh1 hh2 hjn hlo (by assumption)
   omega
  intro hc2
  refine rg S (tr (mv rfl)<|la (av rfl)) ?_; clear S; intro a u S
  refine blk_n (then_n ?_)
  refine ⟨i, hh, S.re (subM rfl) rfl rfl, ?_, ?_⟩
  ·first | exact srch_lo hs hh1 hh2 hjn (by assumption) hhi | exact srch_hi hs hh1 hh2 hjn hlo (by assumption)
  omega
 intro hc3
 refine wp_exit (then_e (then_e (blk_e (then_n ?_))))
 refine rs S (tr (mv rfl)<|tr (mv rfl)<|tr (mv rfl)<|tr (lssi rfl rfl)<|tr (mv rfl)<|tr (og 35 rfl gt fun S hg=>x_move (S.e rfl))<|tr (og 35 rfl gt fun S hg=>x_move (S.e rfl))<|tr (og 35 rfl gt fun S hg=>x_idx uT22 sZ3 (S.p rfl hg) (S.p rfl hg) i rfl (by omega) (((S.u 0 rfl)).1.adr (i := i) (by omega)))<|tr (og 35 rfl gt fun S hg=>x_load sC3 (S.p rfl hg) (((S.u 0 rfl)).1.cell i (by omega) 0 _ rfl))<|tr (og 35 rfl gt fun S hg=>x_move (S.e rfl))<|tr (og 35 rfl gt fun S hg=>x_eql (S.p rfl hg) (S.p rfl hg))<|tr (og 35 rfl gt fun S hg=>x_move (S.p rfl hg))<|tr (og 42 rfl ggf fun S hg=>x_move (S.e rfl))<|tr (og 42 rfl ggf fun S hg=>x_move (S.e rfl))<|tr (og 42 rfl ggf fun S hg=>x_idx uT22 sZ3 (S.p rfl hg) (S.p rfl hg) i rfl (by omega) (((S.u 0 rfl)).1.adr (i := i) (by omega)))<|tr (og 42 rfl ggf fun S hg=>x_load sC3 (S.p rfl hg) (((S.u 0 rfl)).1.cell i (by omega) 0 _ rfl))<|tr (ocg 42 rfl ggf (fun S hg=>sNaN _ _ S.x (.nil _) (x.xs.getD i intE.dflt) (((S.u 0 rfl)).1.wf i (by omega))) cB131 fun S=>⟨fun hg=>(S.p rfl hg), trivial⟩)<|tr (og 42 rfl ggf fun S hg=>x_move (S.p rfl hg))<|tr (og 48 rfl ggt fun S hg=>x_move (S.e rfl))<|tr (ocg 48 rfl ggt (fun S hg=>sNaN _ _ S.x (.nil _) v v_h) cB131 fun S=>⟨fun hg=>(S.p rfl hg), trivial⟩)<|tr (og 42 rfl ggf fun S hg=>x_and (S.p rfl hg) (fun hl => (S.p rfl (And.intro hg hl))) (S.e rfl))<|tr (og 35 rfl gt fun S hg=>x_or (S.p rfl hg) (S.e rfl) (fun hl => (S.p rfl (And.intro hg hl))))<|tr (andi rfl rfl rfl)<|tr (av rfl)<|la (av rfl)) ?_; clear S; intro a u S
 refine wp_ret ?_
 refine ret2 rfl S.s rfl rfl ?_
 refine ⟨i, (r2 rfl (vb ?_)), ?_, S.m.c⟩
 ·exact srch_in hs (show i = j by omega) hlo hhi
 exact ⟨by omega, hlo, fun k hk hk2 => hhi k (by omega) hk2⟩
theorem sInsert (w : World) (F : Nat → Prop) (hF : Old F w) (x_a : Option Addr) (v_a : Option Addr) (M : MS [abk x_a, abk v_a] w) (hD : ∀ k, In [abk x_a, abk v_a] k → ¬ F k) (x_c : Nat) (x : List Int) (x_R : Row intE 3 0 F [abk x_a, abk v_a] w x_a x_c x) (i : Int) (i_h : inI64 i) (v_c : Nat) (v : List Int) (v_R : Row intE 3 0 F [abk x_a, abk v_a] w v_a v_c v) (hi : (0 ≤ i ∧ i ≤ x.length) ∧ v.length = 1 ∧ x.length ≤ 1000) :
 Calls Try.prog 127 #[.slice x_a x.length x_c, iI i, .slice v_a v.length v_c] w fun e w' => ∃ (ra : Option Addr) (rc : Nat), e = .returned (.slice ra ((x.take (i).toNat ++ v ++ x.drop (i).toNat).length) rc) ∧ Row intE 3 0 F [abk ra] w' ra rc (x.take (i).toNat ++ v ++ x.drop (i).toNat) ∧ Tr [abk x_a, abk v_a] w [abk ra] w' := ins_row M x_R v_R i hi
end Go.Proofs.Ytobggnpnochnnaa.V
