/- joined lines -/
import Derived.Test.YtmaiillomoehgaaDoorS8
import Derived.Test.YtmaiillomoehgaaDoorBld
namespace Go.Proofs.YtmaiillomoehgaaDoor.V
open Go.RowKit Go.Proofs.YtmaiillomoehgaaDoor
set_option linter.unusedVariables false
set_option linter.unusedSimpArgs false
theorem strJoin (w : World) (F : Nat → Prop) (hF : Old F w) (M : MS [] w) (x : Sl ByteArray) (x_w : (slE strE).wf (Fr F []) w.heap x) (y : ByteArray) (y_h : inStr y) (hb : y = ⟨#[32]⟩ ∧ (jl (x.xs.map bl)).length ≤ 1099511627776 ∧ x.xs.length ≤ 1099511627777) :
 Calls Tryd.prog 37 #[sV x, .string y] w fun e w' => e = .returned (.string (mkB (jl (x.xs.map bl)))) ∧ Tr [] w [] w' := by
 obtain ⟨rfl, h1, h2⟩ := hb
 have hJ := jl_join (x.xs.map bl)
 have hL := x_w.1
 rcases Nat.eq_zero_or_pos x.xs.length with h0 | h0
 ·have hx : x.xs = [] := List.eq_nil_of_length_eq_zero h0
  have hj0 : jl (x.xs.map bl) = [] := by rw [hx]; rfl
  have key := Tryd.strings_Join_none x.a x.c ⟨#[32]⟩ w
  rw [hj0]
  unfold sV
  rw [h0]
  refine key.mono ?_
  rintro e w2 ⟨rfl, rfl⟩
  exact ⟨rfl, tr_same _⟩
 have ha := hL.ad h0
 unfold sV
 rw [ha.1]
 refine (Tryd.strings_Join (blk x.a) (off x.a) x.c x.xs ⟨#[32]⟩ w (fun j y hy => ?_) ha.2.2 (by omega) x_w.2.1 (by show (Lib.join (x.xs.map bl) [32]).length ≤ _; rw [hJ]; omega)).mono ?_
 ·have hj : j < x.xs.length := (List.getElem?_eq_some_iff.1 hy).1
  have := hL.cell j hj 0 (.string y) (by
   rw [List.getD_eq_getElem?_getD, hy]; rfl)
  have e : off x.a + j * strE.n + 0 = off x.a + j := by show _ + j * 1 + 0 = _; omega
  rw [e] at this
  exact this
 rintro e w2 ⟨rfl, hb⟩
 refine ⟨?_, tr_below hb⟩
 show Ending.returned (.string (mkB (Lib.join (x.xs.map bl) [32]))) = _
 rw [hJ]
set_option maxHeartbeats 2000000 in
set_option maxRecDepth 20000 in
theorem sJoin (w : World) (F : Nat → Prop) (hF : Old F w) (M : MS [] w) (l : Sl Line) (l_w : (slE lineE).wf (Fr F []) w.heap l) (hb : (joinB (l.xs.map fun x => x.words.xs)).size ≤ 1099511627776) :
 Calls Tryd.prog 24 #[sV l] w fun e w' => e = .returned (.string (joinB (l.xs.map fun x => x.words.xs))) ∧ Tr [] w [] w' := by
 have : l.xs.length ≤ 9223372036854775807 := (l_w).1.len
 have hr0 : RAll F (In []) w.heap [wfF (slE lineE) l] := ⟨l_w, trivial⟩
 refine go Tryd.func24 rfl 19 rfl [wfF (slE lineE) l] [] hF M ⟨l_w, trivial⟩ trivial ?_
 intro a S
 refine rs S (la (av rfl)) ?_; clear S; intro a u S
 refine rs0 ?_
 refine nbp S (x_allocz _ iZ68 rfl) ?_; clear S; intro a u b3 S
 have hb3 : w.heap.size ≤ b3 := S.nw0 (.inl rfl)
 obtain ⟨n3, S1⟩ := S.bdn hr0 S.s hb3 (isB_new (S.k 0 rfl)) (Below.refl b3 _)
 clear S; have S := S1; clear S1
 refine ent (wp_seq ?_)
 have hn4 : l.xs.length ≤ 9223372036854775807 := ((S.u 0 rfl)).1.len
 refine rs S (tr (mv rfl)<|tr (leni uT36 rfl)<|la (mv rfl)) ?_; clear S; intro a u S
 refine wp_block ?_
 refine lp3 (fun (bs : List UInt8) (nb : Nat) (k : Nat) => [(2, .string (⟨#[]⟩)), (3, pT b3 0), (6, sV l), (7, iN l.xs.length), (8, iN k)]) (fun (bs : List UInt8) (nb : Nat) (k : Nat) => [bdO b3 bs nb]) (fun (bs : List UInt8) (nb : Nat) (k : Nat) => k ≤ l.xs.length ∧ bs = joinL ((l.xs.map fun x => x.words.xs).take k)) (fun (bs : List UInt8) (nb : Nat) (k : Nat) => l.xs.length - k) S ([]) n3 0 (subM rfl) rfl ?_ ?_
 ·exact ⟨Nat.zero_le _, rfl⟩
 clear S; intro bs nb k a u S hR
 obtain ⟨hk, hbs⟩ := hR
 have hjl := joinL_take (l.xs.map fun x => x.words.xs) k
 rw [← hbs] at hjl
 have hjs := mkB_size (joinL (l.xs.map fun x => x.words.xs))
 have hjd : joinB (l.xs.map fun x => x.words.xs) = mkB (joinL (l.xs.map fun x => x.words.xs)) := rfl
 rw [hjd] at hb
 refine rs S (la (lssi rfl rfl)) ?_; clear S; intro a u S
 refine wp_seq ?_
 refine cd S rfl ?_ ?_
 ·intro hc0
  have hst := joinL_step (ls := (l.xs.map fun x => x.words.xs)) (k := k) (by rw [kl_len]; omega)
  rw [kl_at (by omega)] at hst
  have hst1 := joinL_take (l.xs.map fun x => x.words.xs) (k + 1)
  have hst2 := congrArg List.length hst
  simp only [List.length_append, List.length_cons, List.length_nil] at hst2
  have hwk := jl_cnt (((l.xs.getD k lineE.dflt).words.xs).map bl)
  rw [List.length_map] at hwk
  have hmz := mkB_size (jl (((l.xs.getD k lineE.dflt).words.xs).map bl))
  have hml := mkB_list (jl (((l.xs.getD k lineE.dflt).words.xs).map bl))
  have hml2 := congrArg List.length hml
  refine wp_skip (then_n (wp_seq (wp_block (rs0 ?_))))
  obtain ⟨hl7, hu7⟩ : inI64 ((l.xs.getD k lineE.dflt).num) := id ((((S.u 0 rfl)).1.wf k (by omega)).1)
  have hn8 : ((l.xs.getD k lineE.dflt).words.xs).length ≤ 9223372036854775807 := ((((S.u 0 rfl)).1.wf k (by omega)).2).1.len
  refine sp S (tr (idxi uT36 sZ35 rfl rfl k rfl (by omega) (((S.u 0 rfl)).1.adr (i := k) (by omega)))<|la (ov fun S=>x_ldw (S.e rfl) (((S.u 0 rfl)).1.wcell k (by omega) _ rfl _ rfl) wD35)) ?_; clear S; intro a u S
  refine nbp S (x_allocz _ iZ35 rfl) ?_; clear S; intro a u b5 S
  refine ens S (la (stkw 1 rfl rfl rfl)) ?_; clear S; intro a u S
  refine rs0 ?_
  refine sp S (tr (fldi 0 1 rfl uT35)<|tr (ldk 1 sC29 rfl rfl rfl)<|la (oc (fun S=>strJoin _ _ S.x (.nil _) ((l.xs.getD k lineE.dflt).words) (dn0 ((((S.u 0 rfl)).1.wf k (by omega)).2)) (⟨#[32]⟩) (show (⟨#[32]⟩ : ByteArray).size ≤ maxLen from by unfold maxLen; decide) (⟨rfl, by first | omega | (dsimp only; omega), by first | omega | (dsimp only; omega)⟩)) cB37)) ?_; clear S; intro a u S
  refine cl S (bWS (mkB (jl (((l.xs.getD k lineE.dflt).words).xs.map bl))) (S.bd 0 rfl) (by omega)) cB36 ?_
  rintro e u ⟨rfl, hB, hG⟩; refine ⟨_, rfl, fun a s => ?_⟩; obtain ⟨n15, S1⟩ := S.bdn hr0 s hb3 hB hG; clear s hB hG S; have S := S1; clear S1
  refine ent (r0 ?_)
  refine cl S (bWB 10 (S.bd 0 rfl) (by simp only [List.length_append]; omega)) cB38 ?_
  rintro e u ⟨rfl, hB, hG⟩; refine ⟨_, rfl, fun a s => ?_⟩; obtain ⟨n16, S1⟩ := S.bdn hr0 s hb3 hB hG; clear s hB hG S; have S := S1; clear S1
  refine nn (blk_n (then_n ?_))
  refine rg S (tr (addi ((k + 1 : Nat) : Int) rfl rfl (w_i64 (by omega)))<|la (mv rfl)) ?_; clear S; intro a u S
  refine then_n ?_
  refine ⟨((bs ++ (mkB (jl (((l.xs.getD k lineE.dflt).words).xs.map bl))).data.toList) ++ [10]), n16, (k + 1), S.re (subM rfl) rfl rfl, ?_, ?_⟩
  ·refine ⟨by omega, ?_⟩
   rw [hst, hbs, hml]; simp
  omega
 intro hc1
 refine wp_exit (then_e (then_e (blk_e (then_n (rs0 ?_)))))
 refine cl S (bStr (S.bd 0 rfl)) cB39 ?_
 rintro e u ⟨rfl, hG⟩; refine ⟨_, rfl, fun a s => ?_⟩; replace S := S.bd0 hr0 s hb3 hG; clear s hG
 refine ens S (la (av rfl)) ?_; clear S; intro a u S
 refine wp_ret ?_
 refine ret1 rfl S.s rfl ?_
 refine ⟨(r1 (vs ?_)), S.m.c⟩
 rw [hbs, List.take_of_length_le (by rw [kl_len]; omega)]; rfl
end Go.Proofs.YtmaiillomoehgaaDoor.V
