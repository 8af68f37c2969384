/- joined lines: the reference -/
import Derived.Test.YtmaiillomoehgaaDoorS7
import Derived.Test.YtmaiillomoehgaaDoorComS
namespace Go.Proofs.YtmaiillomoehgaaDoor.V
open Go.RowKit Go.Proofs.YtmaiillomoehgaaDoor
set_option linter.unusedVariables false
set_option linter.unusedSimpArgs false
theorem kl_len (xs : List Line) : (xs.map fun x => x.words.xs).length = xs.length := List.length_map _
theorem kl_at {xs : List Line} {k : Nat} (h : k < xs.length) : (xs.map fun x => x.words.xs).getD k [] = (xs.getD k lineE.dflt).words.xs := by
 rw [List.getD_eq_getElem?_getD, List.getD_eq_getElem?_getD, List.getElem?_map, List.getElem?_eq_getElem h]; rfl
set_option maxHeartbeats 2000000 in
set_option maxRecDepth 20000 in
theorem rJoin (w : World) (F : Nat → Prop) (hF : Old F w) (M : MS [] w) (l : Sl Line) (l_w : (slE lineE).wf (Fr F []) w.heap l) (hb : (joinB (l.xs.map fun x => x.words.xs)).size ≤ 1099511627776) :
 Calls Tryd.prog 16 #[sV l] w fun e w' => e = .returned (.string (joinB (l.xs.map fun x => x.words.xs))) ∧ Tr [] w [] w' := by
 have : l.xs.length ≤ 9223372036854775807 := (l_w).1.len
 refine go Tryd.func16 rfl 39 rfl [wfF (slE lineE) l] [] hF M ⟨l_w, trivial⟩ trivial ?_
 intro a S
 refine rs S (la (av rfl)) ?_; clear S; intro a u S
 refine rs S (la (av rfl)) ?_; clear S; intro a u S
 refine wp_seq ?_
 refine rs S (la (av rfl)) ?_; clear S; intro a u S
 refine wp_block ?_
 refine lp2 (fun (sx : ByteArray) (i1 : Nat) => [(0, sV l), (2, .string (⟨#[]⟩)), (3, .string sx), (4, iN i1)]) (fun (sx : ByteArray) (i1 : Nat) => []) (fun (sx : ByteArray) (i1 : Nat) => i1 ≤ l.xs.length ∧ bl sx = joinL ((l.xs.map fun x => x.words.xs).take i1)) (fun (sx : ByteArray) (i1 : Nat) => l.xs.length - i1) S (⟨#[]⟩) 0 (subM rfl) rfl ?_ ?_
 ·exact ⟨Nat.zero_le _, rfl⟩
 clear S; intro sx i1 a u S hR
 obtain ⟨hi, hs⟩ := hR
 have hjl := joinL_take (l.xs.map fun x => x.words.xs) i1
 have hbs := bl_len sx
 rw [hs] at hbs
 have hjs := mkB_size (joinL (l.xs.map fun x => x.words.xs))
 have hjd : joinB (l.xs.map fun x => x.words.xs) = mkB (joinL (l.xs.map fun x => x.words.xs)) := rfl
 rw [hjd] at hb
 refine wp_seq ?_
 have hn5 : l.xs.length ≤ 9223372036854775807 := ((S.u 0 rfl)).1.len
 refine rs S (tr (mv rfl)<|tr (mv rfl)<|tr (leni uT36 rfl)<|la (lssi rfl rfl)) ?_; clear S; intro a u S
 refine cd S rfl ?_ ?_
 ·intro hc0
  have hst := joinL_step (ls := (l.xs.map fun x => x.words.xs)) (k := i1) (by rw [kl_len]; omega)
  rw [kl_at (by omega)] at hst
  have hst1 := joinL_take (l.xs.map fun x => x.words.xs) (i1 + 1)
  have hst2 := congrArg List.length hst
  simp only [List.length_append, List.length_cons, List.length_nil] at hst2
  refine wp_skip (then_n (wp_seq (wp_block (wp_seq ?_))))
  refine rs S (la (av rfl)) ?_; clear S; intro a u S
  refine wp_block ?_
  refine lp2 (fun (sy : ByteArray) (k1 : Nat) => [(0, sV l), (2, .string (⟨#[]⟩)), (4, iN i1), (6, iN i1), (7, sV l), (8, iN l.xs.length), (9, bD (((i1 : Nat) : Int) < ((l.xs.length : Nat) : Int))), (3, .string sy), (5, iN k1)]) (fun (sy : ByteArray) (k1 : Nat) => []) (fun (sy : ByteArray) (k1 : Nat) => k1 ≤ ((l.xs.getD i1 lineE.dflt).words.xs).length ∧ bl sy = joinL ((l.xs.map fun x => x.words.xs).take i1) ++ jl ((((l.xs.getD i1 lineE.dflt).words.xs).take k1).map bl)) (fun (sy : ByteArray) (k1 : Nat) => ((l.xs.getD i1 lineE.dflt).words.xs).length - k1) S sx 0 (subM rfl) rfl ?_ ?_
  ·exact ⟨Nat.zero_le _, by rw [hs]; simp [jl]⟩
  clear S; intro sy k1 a u S hR
  obtain ⟨hk1, hsy⟩ := hR
  have hbs2 := bl_len sy
  rw [hsy, List.length_append] at hbs2
  have hjt0 := jl_take (((l.xs.getD i1 lineE.dflt).words.xs).map bl) k1
  rw [← List.map_take] at hjt0
  refine wp_seq ?_
  have hn8 : ((l.xs.getD i1 lineE.dflt).words.xs).length ≤ 9223372036854775807 := ((((S.u 0 rfl)).1.wf i1 (by omega)).2).1.len
  refine rs S (tr (mv rfl)<|tr (mv rfl)<|tr (mv rfl)<|tr (idxi uT36 sZ35 rfl rfl i1 rfl (by omega) (((S.u 0 rfl)).1.adr (i := i1) (by omega)))<|tr (fldi (off l.a + i1 * 2) 1 rfl uT35)<|tr (ov fun S=>x_load sC29 (S.e rfl) (((S.u 0 rfl)).1.cell i1 (by omega) 1 _ rfl))<|tr (leni uT29 rfl)<|la (lssi rfl rfl)) ?_; clear S; intro a u S
  refine cd S rfl ?_ ?_
  ·intro hc1
   have hjk := jl_step (ws := ((l.xs.getD i1 lineE.dflt).words.xs)) (k := k1) (by omega)
   have hjt := jl_take (((l.xs.getD i1 lineE.dflt).words.xs).map bl) (k1 + 1)
   rw [← List.map_take] at hjt
   have hbn := bl_len (((l.xs.getD i1 lineE.dflt).words.xs).getD k1 strE.dflt)
   have hjk2 := congrArg List.length hjk
   refine wp_skip (then_n (wp_seq (wp_block (wp_seq ?_))))
   refine rs S (tr (mv rfl)<|la (gtri rfl rfl)) ?_; clear S; intro a u S
   refine cd S rfl ?_ ?_
   ·intro hc2
    rw [if_neg (by omega)] at hjk hjk2
    simp only [List.length_append, List.length_cons] at hjk2
    refine rg S (tr (mv rfl)<|tr (ov fun S=>x_sadd (S.e rfl) (S.e rfl) (by first | omega | (simp only [ByteArray.size_append, ba_sz, List.size_toArray, List.length_cons, List.length_nil]; omega)))<|la (av rfl)) ?_; clear S; intro a u S
    refine then_n ?_
    refine rg S (tr (mv rfl)<|tr (mv rfl)<|tr (mv rfl)<|tr (idxi uT36 sZ35 rfl rfl i1 rfl (by omega) (((S.u 0 rfl)).1.adr (i := i1) (by omega)))<|tr (fldi (off l.a + i1 * 2) 1 rfl uT35)<|tr (ov fun S=>x_load sC29 (S.e rfl) (((S.u 0 rfl)).1.cell i1 (by omega) 1 _ rfl))<|tr (mv rfl)<|tr (idxi uT29 sZ9 rfl rfl k1 rfl (by omega) (((((S.u 0 rfl)).1.wf i1 (by omega)).2).1.adr (i := k1) (by omega)))<|tr (ov fun S=>x_load sC9 (S.e rfl) (((((S.u 0 rfl)).1.wf i1 (by omega)).2).1.cell k1 (by omega) 0 _ rfl))<|tr (ov fun S=>x_sadd (S.e rfl) (S.e rfl) (by first | omega | (simp only [ByteArray.size_append, ba_sz, List.size_toArray, List.length_cons, List.length_nil]; omega)))<|la (av rfl)) ?_; clear S; intro a u S
    refine blk_n (then_n ?_)
    refine rg S (tr (mv rfl)<|tr (addi ((k1 + 1 : Nat) : Int) rfl rfl (w_i64 (by omega)))<|la (av rfl)) ?_; clear S; intro a u S
    refine then_n ?_
    refine ⟨((sy ++ ⟨#[32]⟩) ++ (((l.xs.getD i1 lineE.dflt).words.xs).getD k1 strE.dflt)), (k1 + 1), S.re (subM rfl) rfl rfl, ?_, ?_⟩
    ·refine ⟨by omega, ?_⟩
     first
     | (rw [bl_app, bl_app, hsy, hjk]; simp [bl])
     | (rw [bl_app, hsy, hjk])
    omega
   intro hc3
   rw [if_pos (by omega)] at hjk hjk2
   have hk0 : k1 = 0 := by omega
   have hj0 : jl ((((l.xs.getD i1 lineE.dflt).words.xs).take k1).map bl) = [] := by rw [hk0]; rfl
   rw [hj0, List.append_nil] at hsy
   refine wp_skip (then_n ?_)
   refine rg S (tr (mv rfl)<|tr (mv rfl)<|tr (mv rfl)<|tr (idxi uT36 sZ35 rfl rfl i1 rfl (by omega) (((S.u 0 rfl)).1.adr (i := i1) (by omega)))<|tr (fldi (off l.a + i1 * 2) 1 rfl uT35)<|tr (ov fun S=>x_load sC29 (S.e rfl) (((S.u 0 rfl)).1.cell i1 (by omega) 1 _ rfl))<|tr (mv rfl)<|tr (idxi uT29 sZ9 rfl rfl k1 rfl (by omega) (((((S.u 0 rfl)).1.wf i1 (by omega)).2).1.adr (i := k1) (by omega)))<|tr (ov fun S=>x_load sC9 (S.e rfl) (((((S.u 0 rfl)).1.wf i1 (by omega)).2).1.cell k1 (by omega) 0 _ rfl))<|tr (ov fun S=>x_sadd (S.e rfl) (S.e rfl) (by first | omega | (simp only [ByteArray.size_append, ba_sz, List.size_toArray, List.length_cons, List.length_nil]; omega)))<|la (av rfl)) ?_; clear S; intro a u S
   refine blk_n (then_n ?_)
   refine rg S (tr (mv rfl)<|tr (addi ((k1 + 1 : Nat) : Int) rfl rfl (w_i64 (by omega)))<|la (av rfl)) ?_; clear S; intro a u S
   refine then_n ?_
   refine ⟨(sy ++ (((l.xs.getD i1 lineE.dflt).words.xs).getD k1 strE.dflt)), (k1 + 1), S.re (subM rfl) rfl rfl, ?_, ?_⟩
   ·refine ⟨by omega, ?_⟩
    first
    | (rw [bl_app, bl_app, hsy, hjk]; simp [bl])
    | (rw [bl_app, hsy, hjk])
   omega
  intro hc4
  refine wp_exit (then_e (then_e (blk_e (then_n ?_))))
  refine rg S (tr (mv rfl)<|tr (ov fun S=>x_sadd (S.e rfl) (S.e rfl) (by first | omega | (simp only [ByteArray.size_append, ba_sz, List.size_toArray, List.length_cons, List.length_nil]; omega)))<|la (av rfl)) ?_; clear S; intro a u S
  refine blk_n (then_n ?_)
  refine rg S (tr (mv rfl)<|tr (addi ((i1 + 1 : Nat) : Int) rfl rfl (w_i64 (by omega)))<|la (av rfl)) ?_; clear S; intro a u S
  refine then_n ?_
  refine ⟨(sy ++ ⟨#[10]⟩), (i1 + 1), S.re (subM rfl) rfl rfl, ?_, ?_⟩
  ·refine ⟨by omega, ?_⟩
   rw [bl_app, hsy, hst, show k1 = ((l.xs.getD i1 lineE.dflt).words.xs).length from by omega, List.take_length]; simp [bl]
  omega
 intro hc5
 refine wp_exit (then_e (then_e (blk_e (then_n ?_))))
 refine rs S (tr (mv rfl)<|la (av rfl)) ?_; clear S; intro a u S
 refine wp_ret ?_
 refine ret1 rfl S.s rfl ?_
 refine ⟨(r1 (vs ?_)), S.m.c⟩
 apply bl_inj; rw [hs, show joinB (l.xs.map fun x => x.words.xs) = mkB (joinL (l.xs.map fun x => x.words.xs)) from rfl, bl_mk, List.take_of_length_le (by rw [kl_len]; omega)]
end Go.Proofs.YtmaiillomoehgaaDoor.V
