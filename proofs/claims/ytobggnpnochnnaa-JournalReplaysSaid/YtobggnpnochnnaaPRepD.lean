/- Texts of this claim in one: part D. -/
import Derived.Test.YtobggnpnochnnaaPRepC
import Derived.Test.YtobggnpnochnnaaPRepB
set_option linter.unusedVariables false
set_option linter.unusedSimpArgs false
namespace Go.Proofs.Ytobggnpnochnnaa.V
open Go.RowKit
def rndP (st : Bool) (n : Int) : Int → List Int → List Chg → Option (List Int)
  | _, now, [] => some now
  | last, now, c :: r => if c.dev ≤ last ∨ n ≤ c.dev ∨ c.ver ≤ now.getD c.dev.toNat 0 ∨ 3 < c.ver ∨ (¬ st = true ∧ c.ver ≠ 3) then none else rndP st n c.dev (now.set c.dev.toNat c.ver) r
def stsA (st : Bool) (n : Int) : List (List Int) → List Int → List (List Chg) → Option (List (List Int))
  | acc, _, [] => some acc
  | acc, now, r :: rs => if r.length = 0 then none else match rndP st n (-1) now r with
    | none => none
    | some y => stsA st n (acc ++ [y]) y rs
def zerosP (n : Int) : List Int := List.replicate n.toNat 0
def statesP (st : Bool) (R : List (List Chg)) (n : Int) : Option (List (List Int)) := if n < 1 ∨ 12 < n then none else stsA st n [zerosP n] (zerosP n) R
def rdsP (p : Plan) : List (List Chg) := p.rounds.xs.map fun l => l.xs
theorem rdsP_len (p : Plan) : (rdsP p).length = p.rounds.xs.length := List.length_map _
theorem rdsP_at (p : Plan) (k : Nat) : (rdsP p).getD k [] = (p.rounds.xs.getD k (slE chgE).dflt).xs := by
  unfold rdsP
  rw [List.getD_eq_getElem?_getD, List.getD_eq_getElem?_getD, List.getElem?_map]
  cases p.rounds.xs[k]? <;> rfl
theorem drop_cons {α : Type} {l : List α} {k : Nat} (h : k < l.length) (d : α) : l.drop k = l.getD k d :: l.drop (k + 1) := by
  rw [List.drop_eq_getElem_cons h, List.getD_eq_getElem?_getD, List.getElem?_eq_getElem h]; rfl
theorem take_up {α : Type} {l : List α} {k m : Nat} (h : k < l.length) (e : m = k + 1) (d : α) : l.take m = l.take k ++ [l.getD k d] := by
  subst e; rw [List.take_succ_eq_append_getElem h, List.getD_eq_getElem?_getD, List.getElem?_eq_getElem h]; rfl
theorem rndP_len {st : Bool} {n : Int} : ∀ (l : List Chg) {last : Int} {now y : List Int}, rndP st n last now l = some y → y.length = now.length
  | [], _, now, y, h => by rw [rndP] at h; cases h; rfl
  | c :: r, last, now, y, h => by
    rw [rndP] at h
    split at h
    · cases h
    · rw [rndP_len r h, List.length_set]
theorem rndP_dev {st : Bool} {n : Int} : ∀ (l : List Chg) {last : Int} {now y : List Int}, -1 ≤ last → rndP st n last now l = some y → l.Pairwise (fun a b => a.dev < b.dev) ∧ ∀ x ∈ l, last < x.dev ∧ x.dev < n ∧ x.ver ≤ 3
  | [], _, now, y, _, h => ⟨.nil, fun x hx => by simp at hx⟩
  | c :: r, last, now, y, h0, h => by
    rw [rndP] at h
    split at h
    · cases h
    · rename_i hc
      obtain ⟨h1, h2⟩ := rndP_dev r (by omega) h
      refine ⟨List.pairwise_cons.2 ⟨fun x hx => (h2 x hx).1, h1⟩, fun x hx => ?_⟩
      rcases List.mem_cons.1 hx with rfl | hx
      · omega
      · have := h2 x hx; omega
theorem pw_len {n : Nat} : ∀ {l : List Chg} {b : Int}, 0 ≤ b → b ≤ n → l.Pairwise (fun a b => a.dev < b.dev) → (∀ x ∈ l, b ≤ x.dev ∧ x.dev < n) → (l.length : Int) ≤ n - b
  | [], b, _, h, _, _ => by simp; omega
  | x :: t, b, h0, h, hp, hx => by
    rw [List.pairwise_cons] at hp
    have h1 := hx x List.mem_cons_self
    have := pw_len (l := t) (b := x.dev + 1) (by omega) (by omega) hp.2 fun y hy => ⟨by have := hp.1 y hy; omega, (hx y (List.mem_cons_of_mem _ hy)).2⟩
    simp only [List.length_cons]; omega
theorem stsA_ok {st : Bool} {n : Nat} : ∀ (R : List (List Chg)) {acc sts : List (List Int)} {now : List Int}, now.length = n → (∀ l ∈ acc, l.length = n) → stsA st n acc now R = some sts →
    sts.length = acc.length + R.length ∧ (∀ l ∈ sts, l.length = n) ∧ ∀ l ∈ R, 0 < l.length ∧ l.length ≤ n ∧ (∀ x ∈ l, 0 ≤ x.dev ∧ x.dev < n)
  | [], acc, sts, now, _, ha, h => by
    rw [stsA] at h; cases h
    exact ⟨rfl, ha, fun l h => by simp at h⟩
  | r :: rs, acc, sts, now, hn, ha, h => by
    rw [stsA] at h
    split at h
    · cases h
    · rename_i h0
      split at h
      · cases h
      · rename_i y hy
        have hyl := rndP_len r hy
        obtain ⟨g1, g2⟩ := rndP_dev r (by omega) hy
        obtain ⟨k1, k2, k3⟩ := stsA_ok rs (hyl.trans hn) (fun l hl => by
          rcases List.mem_append.1 hl with hl | hl
          · exact ha l hl
          · obtain rfl : l = y := by simpa using hl
            exact hyl.trans hn) h
        have hx : ∀ x ∈ r, 0 ≤ x.dev ∧ x.dev < (n : Int) := fun x hx => by have := g2 x hx; omega
        have hle := pw_len (Int.le_refl 0) (by omega) g1 hx
        refine ⟨by rw [k1]; simp only [List.length_append, List.length_cons, List.length_nil]; omega, k2, fun l hl => ?_⟩
        rcases List.mem_cons.1 hl with rfl | hl
        · exact ⟨by omega, by omega, hx⟩
        · exact k3 l hl
theorem statesP_ok {st : Bool} {R : List (List Chg)} {n : Int} {sts : List (List Int)} (h : statesP st R n = some sts) (hR : R.length ≤ 16) : (1 ≤ n ∧ n ≤ 12) ∧ PlanOK n.toNat R sts ∧ ∀ l ∈ R, 0 < l.length := by
  unfold statesP at h
  split at h
  · cases h
  · rename_i hn
    obtain ⟨m, rfl⟩ : ∃ m : Nat, n = m := ⟨n.toNat, by omega⟩
    have hz : (zerosP m).length = m := by unfold zerosP; simp
    obtain ⟨k1, k2, k3⟩ := stsA_ok R hz (fun l hl => by obtain rfl : l = _ := by simpa using hl
                                                        exact hz) h
    simp only [List.length_singleton] at k1
    refine ⟨by omega, ⟨by simp; omega, by simp; omega, hR, by omega, fun l hl => ⟨?_, ?_⟩, fun l hl => by simpa using k2 l hl⟩, fun l hl => (k3 l hl).1⟩
    · have := (k3 l hl).2.1; omega
    · intro x hx; simpa using (k3 l hl).2.2 x hx
theorem or5 {a b c d e : Prop} : (((a ∨ b) ∨ c) ∨ d) ∨ e ↔ a ∨ b ∨ c ∨ d ∨ e := by simp only [or_assoc]
theorem rndP_no {st : Bool} {n last : Int} {now : List Int} {c : Chg} {r : List Chg} (h : c.dev ≤ last ∨ n ≤ c.dev ∨ c.ver ≤ now.getD c.dev.toNat 0 ∨ 3 < c.ver ∨ (¬ st = true ∧ c.ver ≠ 3)) : rndP st n last now (c :: r) = none := if_pos h
theorem rndP_go {st : Bool} {n last : Int} {now : List Int} {c : Chg} {r : List Chg} (h : ¬ (c.dev ≤ last ∨ n ≤ c.dev ∨ c.ver ≤ now.getD c.dev.toNat 0 ∨ 3 < c.ver ∨ (¬ st = true ∧ c.ver ≠ 3))) : rndP st n last now (c :: r) = rndP st n c.dev (now.set c.dev.toNat c.ver) r := if_neg h
/-- what the states are asked for: nothing, or the error -/
def stsD (o : Option (List (List Int))) : List (List Int) := o.getD []
def stsE (o : Option (List (List Int))) : Int := if o.isSome = true then 0 else 1
def lastD (r : List Chg) (k : Nat) : Int := if k = 0 then -1 else (r.getD ((k : Int) - 1).toNat chgE.dflt).dev
theorem lastD_le {r : List Chg} {k : Nat} {d : Int} (h : k = 0 ∨ 0 ≤ lastD r k) : d ≤ lastD r k ↔ d < 0 ∨ (0 < ((k : Nat) : Int) ∧ d ≤ (r.getD ((k : Int) - 1).toNat chgE.dflt).dev) := by
  unfold lastD at *
  split <;> omega
theorem lastD_up (r : List Chg) (k : Nat) : lastD r (k + 1) = (r.getD k chgE.dflt).dev := by
  unfold lastD
  rw [if_neg (by omega), show (((k + 1 : Nat) : Int) - 1).toNat = k from by omega]
theorem or6 {a b c d e f : Prop} : (((((a ∨ b) ∨ c) ∨ d) ∨ e) ∨ f) ↔ (a ∨ c) ∨ b ∨ d ∨ e ∨ f := by
  constructor
  · rintro (((((h | h) | h) | h) | h) | h)
    · exact .inl (.inl h)
    · exact .inr (.inl h)
    · exact .inl (.inr h)
    · exact .inr (.inr (.inl h))
    · exact .inr (.inr (.inr (.inl h)))
    · exact .inr (.inr (.inr (.inr h)))
  · rintro ((h | h) | h | h | h | h)
    · exact .inl (.inl (.inl (.inl (.inl h))))
    · exact .inl (.inl (.inl (.inr h)))
    · exact .inl (.inl (.inl (.inl (.inr h))))
    · exact .inl (.inl (.inr h))
    · exact .inl (.inr h)
    · exact .inr h
theorem stsE_0 {o : Option (List (List Int))} : stsE o = 0 ↔ o.isSome = true := by unfold stsE; cases o <;> simp
def errQ {α : Type} (q : Option α) : Int := if q.isSome = true then 0 else 1
/-- the fresh controller -/
def newC (n : Int) : Ctl := ⟨0, false, 0, zerosP n, zerosP n, [], []⟩
theorem newC_ok {n : Nat} {R : Nat} : CtlOK n R (newC n) :=
  ⟨by simp [newC, zerosP], by simp [newC, zerosP], ⟨.nil, fun x h => by simp [newC] at h⟩, by show -1 ≤ (0 : Int) ∧ (0 : Int) ≤ _; omega, Int.le_refl 0, fun _ => by show (0 : Int) ≤ 0 + 1 ∧ (0 : Int) ≤ 0; omega, fun h => by cases h⟩
end Go.Proofs.Ytobggnpnochnnaa.V
namespace Go.Proofs.Ytobggnpnochnnaa.V
open Go.RowKit Go.Proofs.Ytobggnpnochnnaa
set_option linter.unusedVariables false
set_option linter.unusedSimpArgs false
set_option maxHeartbeats 2000000 in
set_option maxRecDepth 20000 in
theorem pStates (w : World) (F : Nat → Prop) (hF : Old F w) (M : MS [] w) (p : Plan) (p_w : planE.wf (Fr F []) w.heap p) (n : Int) (n_h : inI64 n) (hb : p.rounds.xs.length ≤ 100) :
 Calls Try.prog 103 #[.agg (planE.cells p).toArray, iI n] w fun e w' => ∃ (r0 : Sl (Sl Int)), e = .returned (.tuple #[sV r0, iI (stsE (statesP p.staged (rdsP p) n))]) ∧ (slE (slE intE)).wf (Fr F []) w'.heap r0 ∧ (r0.xs.map (fun l => l.xs) = stsD (statesP p.staged (rdsP p) n)) ∧ Tr [] w [] w' := by
 have : p.rounds.xs.length ≤ 9223372036854775807 := (p_w.2).1.len
 obtain ⟨n_hl, n_hu⟩ : inI64 n := id n_h
 have hR0 := rdsP_len p
 refine go Try.func103 rfl 91 rfl [wfF planE p] [] hF M ⟨p_w, trivial⟩ trivial ?_
 intro a S
 have hD : ∀ k, In ([] : List BS) k → ¬ F k := fun _ h => h.elim
 refine rs0 ?_
 refine nbp S (x_box _ (S.e rfl) rfl) ?_; clear S; intro a u b2 S
 refine ens S (tr (av rfl)<|la (av rfl)) ?_; clear S; intro a u S
 refine wp_seq ?_
 refine rs S (tr (mv rfl)<|tr (lssi rfl rfl)<|tr (mv rfl)<|tr (og 15 rfl gf fun S hg=>x_move (S.e rfl))<|tr (og 15 rfl gf fun S hg=>x_gtr (S.p rfl hg) (S.e rfl))<|la (ori rfl rfl rfl)) ?_; clear S; intro a u S
 refine cd S rfl ?_ ?_
 ·intro hc0
  refine rs S (tr (av rfl)<|la (av rfl)) ?_; clear S; intro a u S
  refine wp_ret (then_r ?_)
  refine ret2 rfl S.s rfl rfl ?_
  replace S := S.pk []
  refine ⟨(Sl.mk none 0 ([] : List (Sl Int))), (r2 rfl (vi ?_)), sl_nil, ?_, S.m.c⟩
  ·have e : statesP p.staged (rdsP p) n = none := by unfold statesP; rw [if_pos hc0]
   rw [e]; rfl
  have e : statesP p.staged (rdsP p) n = none := by unfold statesP; rw [if_pos hc0]
  rw [e]; rfl
 intro hc1
 have hS : statesP p.staged (rdsP p) n = stsA p.staged n [zerosP n] (zerosP n) (rdsP p) := if_neg hc1
 refine wp_skip (then_n (rs0 ?_))
 refine sp S (la (mv rfl)) ?_; clear S; intro a u S
 refine mk (E := intE) S (0 : Int) (n).toNat uT22 iZ3 rfl rfl (by omega) (by omega) (by omega) (by unfold maxLen; omega) (fun _ _ => by first | exact ⟨by omega, by omega⟩ | trivial | exact sl_nil) ?_; clear S; intro a u ad20 S
 have hrl20 : (List.replicate (n).toNat (0 : Int)).length = (n).toNat := List.length_replicate
 refine ens S (la (av rfl)) ?_; clear S; intro a u S
 refine rs0 ?_
 refine sp S (la (mv rfl)) ?_; clear S; intro a u S
 replace S := S.fz 1 rfl
 refine nbr (slE intE) S [(Sl.mk ad20 ((n).toNat) (List.replicate (n).toNat (0 : Int)))] (x_bs S [(0, .slice ad20 ((List.replicate (n).toNat (0 : Int)).length) ((n).toNat))] uT66 iZ22) (fun x hx => by simp only [List.mem_cons, List.not_mem_nil, or_false] at hx; rw [hx]; exact (show (slE intE).wf _ _ (Sl.mk ad20 ((n).toNat) (List.replicate (n).toNat (0 : Int))) from (S.u 1 rfl))) ?_; clear S; intro a u b22 S
 refine ens S (la (av rfl)) ?_; clear S; intro a u S
 refine wp_seq ?_
 have hn7 : p.rounds.xs.length ≤ 9223372036854775807 := ((S.u 0 rfl).2).1.len
 refine rs S (tr (fldi 0 1 rfl uT47)<|tr (ldk 0 sC45 rfl rfl rfl)<|tr (leni uT45 rfl)<|la (mv rfl)) ?_; clear S; intro a u S
 refine wp_block ?_
 replace S := S.ar (wfF (slE intE) (Sl.mk ad20 ((n).toNat) (List.replicate (n).toNat (0 : Int)))) (S.u 1 rfl)
 refine lq5 (fun (j : Nat) (nw : Sl Int) (out_a : Option Addr) (out_c : Nat) (out : List (Sl Int)) => [(1, iI n), (2, pT b2 0), (24, sV p.rounds), (25, iN p.rounds.xs.length), (26, iN j), (6, sV nw), (7, .slice out_a out.length out_c)]) (fun (j : Nat) (nw : Sl Int) (out_a : Option Addr) (out_c : Nat) (out : List (Sl Int)) => [wfF planE p, wfF (slE intE) (Sl.mk ad20 ((n).toNat) (List.replicate (n).toNat (0 : Int))), wfF (slE intE) nw]) (fun (j : Nat) (nw : Sl Int) (out_a : Option Addr) (out_c : Nat) (out : List (Sl Int)) => [blO b2 (planE.cells p) 47, noO, rwO (slE intE) 22 w.heap.size out_a out_c out]) (fun (j : Nat) (nw : Sl Int) (out_a : Option Addr) (out_c : Nat) (out : List (Sl Int)) => j ≤ p.rounds.xs.length ∧ nw.xs.length = n.toNat ∧ out.length = j + 1 ∧ stsA p.staged n (out.map fun l => l.xs) nw.xs ((rdsP p).drop j) = stsA p.staged n [zerosP n] (zerosP n) (rdsP p)) (fun (j : Nat) (nw : Sl Int) (out_a : Option Addr) (out_c : Nat) (out : List (Sl Int)) => p.rounds.xs.length - j) S 0 (Sl.mk ad20 ((n).toNat) (List.replicate (n).toNat (0 : Int))) (some ⟨b22, 0, none⟩) 1 ([(Sl.mk ad20 ((n).toNat) (List.replicate (n).toNat (0 : Int)))]) (subM rfl) rfl rfl ?_ ?_
 ·exact ⟨Nat.zero_le _, by simp [zerosP], rfl, rfl⟩
 clear S; intro j nw out_a out_c out a u S hR
 have out_len := (S.row 2 rfl).len_le; simp only [maxLen] at out_len
 obtain ⟨hj, hnl, hol, hI⟩ := hR
 refine rs S (la (lssi rfl rfl)) ?_; clear S; intro a u S
 refine wp_seq ?_
 refine cd S rfl ?_ ?_
 ·intro hc2
  refine wp_skip (then_n (wp_seq (wp_block ?_)))
  have hn10 : ((p.rounds.xs.getD j (slE chgE).dflt).xs).length ≤ 9223372036854775807 := ((((S.u 0 rfl).2).1.wf j (by omega))).1.len
  refine rs S (tr (idxi uT45 sZ122 rfl rfl j rfl (by omega) (((S.u 0 rfl).2).1.adr (i := j) (by omega)))<|tr (ov fun S=>x_load sC122 (S.e rfl) (((S.u 0 rfl).2).1.cell j (by omega) 0 _ rfl))<|la (av rfl)) ?_; clear S; intro a u S
  refine wp_seq ?_
  refine rs S (tr (mv rfl)<|tr (leni uT122 rfl)<|la (eqli rfl rfl)) ?_; clear S; intro a u S
  refine cd S rfl ?_ ?_
  ·intro hc3
   refine rs S (tr (av rfl)<|la (av rfl)) ?_; clear S; intro a u S
   refine wp_ret (then_r (blk_r (then_r (then_r (blk_r (then_r ?_))))))
   refine ret2 rfl S.s rfl rfl ?_
   replace S := S.pk []
   refine ⟨(Sl.mk none 0 ([] : List (Sl Int))), (r2 rfl (vi ?_)), sl_nil, ?_, S.m.c⟩
   ·have e : statesP p.staged (rdsP p) n = none := by rw [hS, ← hI, drop_cons (k := j) (by omega) [], stsA, rdsP_at, if_pos (by omega)]
    rw [e]; rfl
   have e : statesP p.staged (rdsP p) n = none := by rw [hS, ← hI, drop_cons (k := j) (by omega) [], stsA, rdsP_at, if_pos (by omega)]
   rw [e]; rfl
  intro hc4
  refine wp_skip (then_n (rs0 ?_))
  refine sp S (la (mv rfl)) ?_; clear S; intro a u S
  refine cl S (sClone _ _ S.x (.nil _) nw (dn0 (S.u 2 rfl)) (by first | omega | (dsimp only; omega))) cB110 ?_
  rintro e u ⟨ra_t34, rc_t34, rfl, R_t34, T0⟩; refine ⟨_, rfl, fun a s => ?_⟩
  replace S := S.kr [⟨_, intE, 3, ra_t34, rc_t34, nw.xs⟩] s T0 ⟨R_t34, trivial⟩; clear s T0 R_t34
  refine ens S (la (av rfl)) ?_; clear S; intro a u S
  refine rs S (la (av rfl)) ?_; clear S; intro a u S
  refine wp_seq ?_
  refine rs S (tr (mv rfl)<|tr (leni uT122 rfl)<|la (mv rfl)) ?_; clear S; intro a u S
  refine wp_block ?_
  refine lp5 (fun (k : Nat) (ls : Int) (n2_a : Option Addr) (n2_c : Nat) (n2 : List Int) => [(1, iI n), (2, pT b2 0), (24, sV p.rounds), (25, iN p.rounds.xs.length), (26, iN j), (6, .slice n2_a n2.length n2_c), (7, .slice out_a out.length out_c), (27, bD (((j : Nat) : Int) < ((p.rounds.xs.length : Nat) : Int))), (28, pT (blk p.rounds.a) (off p.rounds.a + j * 1)), (29, sV (p.rounds.xs.getD j (slE chgE).dflt)), (9, sV (p.rounds.xs.getD j (slE chgE).dflt)), (30, sV (p.rounds.xs.getD j (slE chgE).dflt)), (31, iN (p.rounds.xs.getD j (slE chgE).dflt).xs.length), (32, bD ((((p.rounds.xs.getD j (slE chgE).dflt).xs.length : Nat) : Int) = 0)), (33, sV nw), (34, .slice ra_t34 nw.xs.length rc_t34), (35, sV (p.rounds.xs.getD j (slE chgE).dflt)), (36, iN (p.rounds.xs.getD j (slE chgE).dflt).xs.length), (37, iN k), (10, iI ls)]) (fun (k : Nat) (ls : Int) (n2_a : Option Addr) (n2_c : Nat) (n2 : List Int) => [blO b2 (planE.cells p) 47, noO, rwO (slE intE) 22 w.heap.size out_a out_c out, rwO intE 3 w.heap.size n2_a n2_c n2]) (fun (k : Nat) (ls : Int) (n2_a : Option Addr) (n2_c : Nat) (n2 : List Int) => k ≤ (p.rounds.xs.getD j (slE chgE).dflt).xs.length ∧ (-1 ≤ ls ∧ ls < n) ∧ n2.length = nw.xs.length ∧ rndP p.staged n ls n2 ((p.rounds.xs.getD j (slE chgE).dflt).xs.drop k) = rndP p.staged n (-1) nw.xs (p.rounds.xs.getD j (slE chgE).dflt).xs) (fun (k : Nat) (ls : Int) (n2_a : Option Addr) (n2_c : Nat) (n2 : List Int) => (p.rounds.xs.getD j (slE chgE).dflt).xs.length - k) S 0 (-1) ra_t34 rc_t34 nw.xs (subM rfl) rfl ?_ ?_
  ·exact ⟨Nat.zero_le _, ⟨by omega, by omega⟩, rfl, rfl⟩
  clear S; intro k ls n2_a n2_c n2 a u S hR
  have n2_len := (S.row 3 rfl).len_le; simp only [maxLen] at n2_len
  obtain ⟨hk, hls, h2l, hI2⟩ := hR
  refine rs S (la (lssi rfl rfl)) ?_; clear S; intro a u S
  refine wp_seq ?_
  refine cd S rfl ?_ ?_
  ·intro hc5
   refine wp_skip (then_n (wp_seq (wp_block (rs0 ?_))))
   obtain ⟨hl18, hu18⟩ : inI64 ((((p.rounds.xs.getD j (slE chgE).dflt).xs).getD k chgE.dflt).dev) := id ((((((S.u 0 rfl).2).1.wf j (by omega))).1.wf k (by omega)).1)
   obtain ⟨hl19, hu19⟩ : inI64 ((((p.rounds.xs.getD j (slE chgE).dflt).xs).getD k chgE.dflt).ver) := id ((((((S.u 0 rfl).2).1.wf j (by omega))).1.wf k (by omega)).2)
   refine sp S (tr (idxi uT122 sZ124 rfl rfl k rfl (by omega) (((((S.u 0 rfl).2).1.wf j (by omega))).1.adr (i := k) (by omega)))<|la (ov fun S=>x_ldw (S.e rfl) (((((S.u 0 rfl).2).1.wf j (by omega))).1.wcell k (by omega) _ rfl _ rfl) wD124)) ?_; clear S; intro a u S
   refine nbp S (x_allocz _ iZ124 rfl) ?_; clear S; intro a u b12 S
   refine ens S (la (stkw 4 rfl rfl rfl)) ?_; clear S; intro a u S
   refine wp_seq (wp_seq ?_)
   refine dr (P := Try.prog) S 35 [] ((41, .is _) :: (42, .is _) :: (43, .is _) :: (44, .is _) :: (45, .is _) :: (46, .is _) :: (47, .is _) :: (48, .is _) :: (49, .is _) :: (50, .is _) :: (51, .is _) :: (52, .is _) :: (53, .is _) :: (54, .is _) :: (55, .is _) :: (56, .is _) :: (57, .is _) :: (58, .is _) :: (59, .is _) :: (60, .is _) :: (61, .is _) :: (62, .is _) :: (63, .is _) :: (64, .is _) :: (65, .is _) :: (66, .is _) :: (67, .is _) :: (68, .is _) :: (69, .is _) :: (70, .is _) :: (71, .is _) :: (72, .is _) :: (73, .is _) :: (74, .is _) :: (75, .is _) :: []) ([] :: [41] :: [] :: [42, 43] :: [44] :: [45] :: [45, 46] :: [45] :: [45, 47, 48] :: [45, 49] :: [50] :: [51] :: [51, 52] :: [51] :: [51] :: [51, 55] :: [51, 54, 56] :: [51, 57] :: [51, 53, 58] :: [51, 59] :: [60] :: [61] :: [61, 62] :: [61, 63] :: [61, 64] :: [65] :: [66] :: [66, 67] :: [66, 68] :: [66, 69] :: [70] :: [70, 71] :: [70, 72] :: [66, 70, 73] :: [66, 74] :: []) [75] _ ⟨qd (fldi 0 0 rfl uT124), qd (ldk 4 sC3 rfl rfl rfl), qd (mv rfl), qd (leqi rfl rfl), qd (mv rfl), qd (og 45 rfl gf fun S hg=>xf (0) 0 uT124 (S.e rfl)), qd (og 45 rfl gf fun S hg=>x_load sC3 (S.p rfl hg) ((S.k 4 rfl).cell (j := 0) rfl)), qd (og 45 rfl gf fun S hg=>x_move (S.e rfl)), qd (og 45 rfl gf fun S hg=>x_geq (S.p rfl hg) (S.p rfl hg)), qd (ori rfl rfl rfl), qd (mv rfl), qd (og 51 rfl gf fun S hg=>xf (0) 1 uT124 (S.e rfl)), qd (og 51 rfl gf fun S hg=>x_load sC3 (S.p rfl hg) ((S.k 4 rfl).cell (j := 1) rfl)), qd (og 51 rfl gf fun S hg=>x_move (S.e rfl)), qd (og 51 rfl gf fun S hg=>xf (0) 0 uT124 (S.e rfl)), qd (og 51 rfl gf fun S hg=>x_load sC3 (S.p rfl hg) ((S.k 4 rfl).cell (j := 0) rfl)), qd (og 51 rfl gf fun S hg=>x_idx uT22 sZ3 (S.p rfl hg) (S.p rfl hg) ((((p.rounds.xs.getD j (slE chgE).dflt).xs).getD k chgE.dflt).dev).toNat (by omega) (by omega) (row_off (S.row 3 rfl) (m := ((((p.rounds.xs.getD j (slE chgE).dflt).xs).getD k chgE.dflt).dev).toNat) (by omega))), qd (og 51 rfl gf fun S hg=>x_load sC3 (S.p rfl hg) (((S.row 3 rfl).latz (by first | decide | exact Nat.one_pos | exact Nat.succ_pos _)).cell ((((p.rounds.xs.getD j (slE chgE).dflt).xs).getD k chgE.dflt).dev).toNat (by omega) 0 _ rfl)), qd (og 51 rfl gf fun S hg=>x_leq (S.p rfl hg) (S.p rfl hg)), qd (ori rfl rfl rfl), qd (mv rfl), qd (og 61 rfl gf fun S hg=>xf (0) 1 uT124 (S.e rfl)), qd (og 61 rfl gf fun S hg=>x_load sC3 (S.p rfl hg) ((S.k 4 rfl).cell (j := 1) rfl)), qd (og 61 rfl gf fun S hg=>x_gtr (S.p rfl hg) (S.e rfl)), qd (ori rfl rfl rfl), qd (mv rfl), qd (og 66 rfl gf fun S hg=>xf (0) 0 uT47 (S.e rfl)), qd (og 66 rfl gf fun S hg=>x_load sC4 (S.p rfl hg) ((S.k 0 rfl).cell (j := 0) rfl)), qd (og 66 rfl gf fun S hg=>x_notp (S.p rfl hg)), qd (og 66 rfl gf fun S hg=>x_move (S.p rfl hg)), qd (og 70 rfl ggt fun S hg=>xf (0) 1 uT124 (S.e rfl)), qd (og 70 rfl ggt fun S hg=>x_load sC3 (S.p rfl hg) ((S.k 4 rfl).cell (j := 1) rfl)), qd (og 70 rfl ggt fun S hg=>x_neq (S.p rfl hg) (S.e rfl)), qd (og 66 rfl gf fun S hg=>x_and (S.p rfl hg) (fun hl => (S.p rfl (And.intro hg hl))) (S.e rfl)), qd (ori rfl rfl rfl), trivial⟩ ?_
   clear S; intro a u S G hE
   refine ent ?_
   refine cd S rfl ?_ ?_
   ·intro hc6
    refine rs S (tr (av rfl)<|la (av rfl)) ?_; clear S; intro a u S
    refine wp_ret (then_r (blk_r (then_r (then_r (blk_r (then_r (blk_r (then_r (then_r (blk_r (then_r ?_)))))))))))
    refine ret2 rfl S.s rfl rfl ?_
    replace S := S.pk []
    refine ⟨(Sl.mk none 0 ([] : List (Sl Int))), (r2 rfl (vi ?_)), sl_nil, ?_, S.m.c⟩
    ·have e : statesP p.staged (rdsP p) n = none := by
      have e2 : rndP p.staged n (-1) nw.xs (p.rounds.xs.getD j (slE chgE).dflt).xs = none := by rw [← hI2, drop_cons (k := k) (by omega) chgE.dflt, rndP_no (or5.1 hc6)]
      rw [hS, ← hI, drop_cons (k := j) (by omega) [], stsA, rdsP_at, if_neg (by omega), e2]
     rw [e]; rfl
    have e : statesP p.staged (rdsP p) n = none := by
     have e2 : rndP p.staged n (-1) nw.xs (p.rounds.xs.getD j (slE chgE).dflt).xs = none := by rw [← hI2, drop_cons (k := k) (by omega) chgE.dflt, rndP_no (or5.1 hc6)]
     rw [hS, ← hI, drop_cons (k := j) (by omega) [], stsA, rdsP_at, if_neg (by omega), e2]
    rw [e]; rfl
   intro hc7
   refine wp_skip (then_n (rs0 ?_))
   refine sp S (tr (mv rfl)<|tr (fldi 0 0 rfl uT124)<|tr (ldk 4 sC3 rfl rfl rfl)<|tr (fldi 0 1 rfl uT124)<|tr (ldk 4 sC3 rfl rfl rfl)<|la (ov fun S=>x_idx uT22 sZ3 (S.e rfl) (S.e rfl) ((((p.rounds.xs.getD j (slE chgE).dflt).xs).getD k chgE.dflt).dev).toNat (by omega) (by omega) (row_off (S.row 3 rfl) (m := ((((p.rounds.xs.getD j (slE chgE).dflt).xs).getD k chgE.dflt).dev).toNat) (by omega)))) ?_; clear S; intro a u S
   refine sp S (la (str (E := intE) 3 (by kernel_rfl) rfl rfl rfl ((((p.rounds.xs.getD j (slE chgE).dflt).xs).getD k chgE.dflt).dev).toNat 0 (by omega) (by first | decide | exact Nat.one_pos | exact Nat.succ_pos _) ((((p.rounds.xs.getD j (slE chgE).dflt).xs).getD k chgE.dflt).ver) (fun S=>(((((S.u 0 rfl).2).1.wf j (by omega))).1.wf k (by omega)).2) rfl (by first | rfl | (show _ = _ * 1 + 0; omega) | (simp [intE]; omega) | simp [intE]) rfl)) ?_; clear S; intro a u S
   have hls22 : (n2.set ((((p.rounds.xs.getD j (slE chgE).dflt).xs).getD k chgE.dflt).dev).toNat ((((p.rounds.xs.getD j (slE chgE).dflt).xs).getD k chgE.dflt).ver)).length = n2.length := by simp
   refine ent ?_
   refine rg S (tr (fldi 0 0 rfl uT124)<|tr (ldk 4 sC3 rfl rfl rfl)<|la (av rfl)) ?_; clear S; intro a u S
   refine blk_n (then_n ?_)
   refine rg S (tr (addi ((k + 1 : Nat) : Int) rfl rfl (w_i64 (by omega)))<|la (mv rfl)) ?_; clear S; intro a u S
   refine then_n ?_
   refine ⟨(k + 1), (((p.rounds.xs.getD j (slE chgE).dflt).xs).getD k chgE.dflt).dev, n2_a, n2_c, (n2.set ((((p.rounds.xs.getD j (slE chgE).dflt).xs).getD k chgE.dflt).dev).toNat ((((p.rounds.xs.getD j (slE chgE).dflt).xs).getD k chgE.dflt).ver)), S.re ⟨rfl, rfl, rfl, rfl, rfl, (by first | rfl | (simp only [List.length_set]; rfl)), rfl, rfl, rfl, rfl, rfl, rfl, rfl, rfl, rfl, rfl, rfl, rfl, rfl, rfl, trivial⟩ rfl rfl, ?_, ?_⟩
   ·refine ⟨by omega, ⟨by omega, by omega⟩, by rw [List.length_set]; exact h2l, ?_⟩
    rw [← hI2, drop_cons (k := k) (by omega) chgE.dflt, rndP_go (fun h => hc7 (or5.2 h))]
   omega
  intro hc8
  refine wp_exit (then_e (then_e (blk_e (then_n (r0 ?_)))))
  refine sp S (tr (mv rfl)<|la (mv rfl)) ?_; clear S; intro a u S
  replace S := S.fz 3 rfl
  refine nbs (slE intE) S [(Sl.mk n2_a n2_c n2)] (x_bs S [(0, .slice n2_a n2.length n2_c)] uT66 iZ22) (fun x hx => by simp only [List.mem_cons, List.not_mem_nil, or_false] at hx; rw [hx]; exact (show (slE intE).wf _ _ (Sl.mk n2_a n2_c n2) from (S.u 3 rfl))) ?_; clear S; intro a u b87 S
  refine ap (E := (slE intE)) (ys := [(Sl.mk n2_a n2_c n2)]) S 2 rfl uT66 iZ22 rfl rfl (show LAt (slE intE) _ _ (some ⟨b87, 0, none⟩) ([(Sl.mk n2_a n2_c n2)]) from ((S.u 4 rfl)).1) ((S.u 4 rfl)).2.2 (LAt.mem (show LAt (slE intE) _ _ (some ⟨b87, 0, none⟩) ([(Sl.mk n2_a n2_c n2)]) from ((S.u 4 rfl)).1)) ⟨by unfold maxLen; (try simp only [List.length_cons, List.length_nil, List.length_append, List.length_map]); omega, by (try simp only [List.length_cons, List.length_nil, List.length_append, List.length_map]); omega⟩ ?_; clear S; intro a u ad88 cap88 S
  refine en S (la (av rfl)) ?_; clear S; intro a u S
  refine blk_n (then_n ?_)
  refine rg S (tr (addi ((j + 1 : Nat) : Int) rfl rfl (w_i64 (by omega)))<|la (mv rfl)) ?_; clear S; intro a u S
  have hnw := (S.u 3 rfl)
  replace S := S.rt 2
  replace S := S.ar (wfF (slE intE) (Sl.mk n2_a n2_c n2)) hnw
  refine then_n ?_
  refine ⟨(j + 1), (Sl.mk n2_a n2_c n2), ad88, cap88, (out ++ [(Sl.mk n2_a n2_c n2)]), S.re (subM rfl) rfl rfl, ?_, ?_⟩
  ·refine ⟨by omega, by show n2.length = _; rw [h2l]; exact hnl, by simp; omega, ?_⟩
   have e2 : rndP p.staged n (-1) nw.xs (p.rounds.xs.getD j (slE chgE).dflt).xs = some n2 := by rw [← hI2, List.drop_of_length_le (by omega)]; rfl
   rw [← hI, drop_cons (k := j) (by omega) [], stsA, rdsP_at, if_neg (by omega), e2, List.map_append]; rfl
  omega
 intro hc9
 refine wp_exit (then_e (then_e (blk_e (then_n ?_))))
 refine rs S (tr (mv rfl)<|tr (av rfl)<|la (av rfl)) ?_; clear S; intro a u S
 refine wp_ret ?_
 replace S := S.fz 2 rfl
 refine ret2 rfl S.s rfl rfl ?_
 replace S := S.pk []
 refine ⟨(Sl.mk out_a out_c out), (r2 rfl (vi ?_)), (S.u 3 rfl), ?_, S.m.c⟩
 ·have e : statesP p.staged (rdsP p) n = some (out.map fun l => l.xs) := by rw [hS, ← hI, List.drop_of_length_le (by omega)]; rfl
  rw [e]; rfl
 have e : statesP p.staged (rdsP p) n = some (out.map fun l => l.xs) := by rw [hS, ← hI, List.drop_of_length_le (by omega)]; rfl
 rw [e]; rfl
end Go.Proofs.Ytobggnpnochnnaa.V
namespace Go.Proofs.Ytobggnpnochnnaa.V
open Go.RowKit Go.Proofs.Ytobggnpnochnnaa
set_option linter.unusedVariables false
set_option linter.unusedSimpArgs false
theorem putP {l : List Int} {v : Int} {k : Nat} (hp : l.Pairwise (· < ·)) (hk : k ≤ l.length) (hn : ∀ j, j < k → l.getD j intE.dflt < v) (h1 : ¬ ((k : Int) < (l.length : Int) ∧ l.getD k intE.dflt < v)) (h2 : ¬ ((k : Int) < (l.length : Int) ∧ l.getD k intE.dflt = v)) : insW l v = l.take k ++ [v] ++ l.drop k := by
 have hg : ∀ i j, i < j → j < l.length → l.getD i 0 < l.getD j 0 := fun i j hij hj => by
  have := List.pairwise_iff_getElem.1 hp i j (by omega) hj hij
  rwa [List.getD_eq_getElem?_getD, List.getD_eq_getElem?_getD, List.getElem?_eq_getElem (show i < l.length by omega), List.getElem?_eq_getElem hj]
 have h1' : k < l.length → v ≤ l.getD k 0 := fun h => by
  apply Int.not_lt.1; intro q; exact h1 ⟨by omega, q⟩
 refine insW_new hk hn (fun j hj hl => ?_) fun hm => ?_
 ·rcases Nat.eq_or_lt_of_le hj with e | e
  ·subst e; exact h1' hl
  have := h1' (by omega)
  have := hg k j e hl
  omega
 obtain ⟨i, hi, e⟩ := List.getElem_of_mem hm
 have e' : l.getD i 0 = v := by rw [List.getD_eq_getElem?_getD, List.getElem?_eq_getElem hi]; exact e
 rcases Nat.lt_trichotomy i k with q | q | q
 ·have : l.getD i 0 < v := hn i q
  omega
 ·subst q; exact h2 ⟨by omega, e'⟩
 have := h1' (by omega)
 have := hg k i q hi
 omega
theorem filt_no {x v : Int} (h : ¬ x = v) : [x].filter (fun y => !(y == v)) = [x] := by simp [h]
theorem filt_yes {x v : Int} (h : ¬ ¬ x = v) : [x].filter (fun y => !(y == v)) = [] := by simp [Classical.not_not.1 h]
set_option maxHeartbeats 2000000 in
set_option maxRecDepth 20000 in
theorem rPut0 (w : World) (F : Nat → Prop) (hF : Old F w) (M : MS [] w) (l : Sl Int) (l_w : (slE intE).wf (Fr F []) w.heap l) (v : Int) (v_h : inI64 v) (hb : l.xs.Pairwise (· < ·) ∧ l.xs.length ≤ 1000) :
 Calls Try.prog 119 #[sV l, iI v] w fun e w' => ∃ (ra : Option Addr) (rc : Nat), e = .returned (.slice ra ((insW l.xs v).length) rc) ∧ (slE intE).wf (Fr F []) w'.heap (Sl.mk ra rc (insW l.xs v)) ∧ Tr [] w [] w' := by
 have : l.xs.length ≤ 9223372036854775807 := (l_w).1.len
 obtain ⟨v_hl, v_hu⟩ : inI64 v := id v_h
 obtain ⟨hb1, hb2⟩ := hb
 refine go Try.func119 rfl 45 rfl [wfF (slE intE) l] [] hF M ⟨l_w, trivial⟩ trivial ?_
 intro a S
 have hD : ∀ k, In ([] : List BS) k → ¬ F k := fun _ h => h.elim
 refine rs S (la (av rfl)) ?_; clear S; intro a u S
 refine rs S (la (av rfl)) ?_; clear S; intro a u S
 refine wp_seq (wp_block ?_)
 refine lp1 (fun (k : Nat) => [(0, sV l), (1, iI v), (4, .slice none 0 0), (5, iN k)]) (fun (k : Nat) => []) (fun (k : Nat) => k ≤ l.xs.length ∧ ∀ j, j < k → l.xs.getD j intE.dflt < v) (fun (k : Nat) => l.xs.length - k) S 0 (subM rfl) rfl ?_ ?_
 ·exact ⟨Nat.zero_le _, fun j hj => by omega⟩
 clear S; intro k a u S hR
 obtain ⟨hk, hn⟩ := hR
 refine wp_seq ?_
 have hn4 : l.xs.length ≤ 9223372036854775807 := ((S.u 0 rfl)).1.len
 refine rs S (tr (mv rfl)<|tr (mv rfl)<|tr (leni uT22 rfl)<|tr (lssi rfl rfl)<|tr (mv rfl)<|tr (og 10 rfl gt fun S hg=>x_move (S.e rfl))<|tr (og 10 rfl gt fun S hg=>x_move (S.e rfl))<|tr (og 10 rfl gt fun S hg=>x_idx uT22 sZ3 (S.p rfl hg) (S.p rfl hg) k rfl (by omega) (((S.u 0 rfl)).1.adr (i := k) (by omega)))<|tr (og 10 rfl gt fun S hg=>x_load sC3 (S.p rfl hg) (((S.u 0 rfl)).1.cell k (by omega) 0 _ rfl))<|tr (og 10 rfl gt fun S hg=>x_move (S.e rfl))<|tr (og 10 rfl gt fun S hg=>x_lss (S.p rfl hg) (S.p rfl hg))<|la (andi rfl rfl rfl)) ?_; clear S; intro a u S
 refine cd S rfl ?_ ?_
 ·intro hc0
  refine wp_skip (then_n (wp_block ?_))
  refine rg S (tr (mv rfl)<|tr (addi ((k + 1 : Nat) : Int) rfl rfl (w_i64 (by omega)))<|la (av rfl)) ?_; clear S; intro a u S
  refine blk_n (then_n ?_)
  refine ⟨(k + 1), S.re (subM rfl) rfl rfl, ?_, ?_⟩
  ·refine ⟨by omega, fun j hj => ?_⟩
   rcases Nat.lt_succ_iff_lt_or_eq.1 hj with h | h
   ·exact hn j h
   subst h; exact hc0.2
  omega
 intro hc1
 refine wp_exit (then_e (then_e (blk_e (then_n (wp_seq ?_)))))
 refine rs S (tr (mv rfl)<|tr (mv rfl)<|tr (leni uT22 rfl)<|tr (lssi rfl rfl)<|tr (mv rfl)<|tr (og 24 rfl gt fun S hg=>x_move (S.e rfl))<|tr (og 24 rfl gt fun S hg=>x_move (S.e rfl))<|tr (og 24 rfl gt fun S hg=>x_idx uT22 sZ3 (S.p rfl hg) (S.p rfl hg) k rfl (by omega) (((S.u 0 rfl)).1.adr (i := k) (by omega)))<|tr (og 24 rfl gt fun S hg=>x_load sC3 (S.p rfl hg) (((S.u 0 rfl)).1.cell k (by omega) 0 _ rfl))<|tr (og 24 rfl gt fun S hg=>x_move (S.e rfl))<|tr (og 24 rfl gt fun S hg=>x_eql (S.p rfl hg) (S.p rfl hg))<|la (andi rfl rfl rfl)) ?_; clear S; intro a u S
 refine cd S rfl ?_ ?_
 ·intro hc2
  refine rs S (tr (mv rfl)<|la (av rfl)) ?_; clear S; intro a u S
  refine wp_ret (then_r ?_)
  refine ret1 rfl S.s rfl ?_
  have hx8 : insW l.xs v = l.xs := by
   exact insW_mem hb1 (by rw [← hc2.2]; exact getD_mem (d := intE.dflt) (i := k) (by omega))
  rw [hx8]
  refine ⟨l.a, l.c, rfl, (S.u 0 rfl), S.m.c⟩
 intro hc3
 refine wp_skip (then_n (wp_seq ?_))
 have hk9 : (l.xs.take k).length = k := by rw [List.length_take]; first | omega | (simp only [List.length_cons, List.length_nil]; omega)
 obtain ⟨z0, hz0⟩ := S.z
 have SW := S
 have hk10 : (slFrom intE l k).xs.length = l.xs.length - k := List.length_drop
 refine dr5 (P := Try.prog) S 7 [⟨8, 41, sV l, []⟩, ⟨9, 42, iN k, []⟩, ⟨10, 43, sV (slFrom intE l k), [41, 42]⟩] [7, 11, 12] [33, 37, 39] [(33, 39), (37, 39)] [] [(33, nilT 3 z0 _), (34, .is _), (35, .is _), (36, .is _), (37, rowT intE 3 z0 _ (l.xs.take k)), (38, .is _), (39, litT 1 [iI v] 3 z0 _), (41, .is (sV l)), (42, .is (iN k)), (43, .is (sV (slFrom intE l k)))] [[], [], [], [34, 35], [33, 36], [], [38]] [37, 39, 43] _ ⟨⟨_, rfl, nilT_owns⟩, ⟨_, rfl, rowT_owns⟩, ⟨_, rfl, litT_owns⟩, trivial⟩ ⟨⟨⟨_, rfl, rfl, rfl, fun a w S => (x_move (S.e rfl))⟩, (show 41 < 45 from by decide), rfl⟩, ⟨⟨_, rfl, rfl, rfl, fun a w S => (x_move (S.e rfl))⟩, (show 42 < 45 from by decide), rfl⟩, ⟨⟨_, rfl, rfl, rfl, fun a w S => (x_slfrom intE (s := l) uT22 iZ3 (S.e rfl) (S.e rfl) k rfl (by omega))⟩, (show 43 < 45 from by decide), rfl⟩, trivial⟩ ⟨hcn rfl hz0 uT22 iZ3, qdc (qd (mv rfl)), qdc (qd (mv rfl)), qdc (qd (ov (v := .slice l.a ((l.xs.take k).length) l.c) fun S=>x_slhn uT22 iZ3 (S.e rfl) (S.e rfl) k rfl (Nat.le_trans (by omega) ((S.u 0 rfl)).2.1) ((S.u 0 rfl)).2.2 _ (by rw [List.length_take]; first | omega | (simp only [List.length_cons, List.length_nil]; omega)))), ?_, qdc (qd (mv rfl)), hcs rfl hz0 (fun S => x_bsl [(0, iI v)] [iI v] uT22 iZ3 (by decide) (by decide) (by simp only [List.map_cons, List.map_nil, S.e (x := .tmp 38) (v := iI v) rfl]) (by kernel_rfl)), trivial⟩ ?_
 ·skip
  intro a u S G hE _; obtain ⟨e33, -⟩ := hE; obtain ⟨x33, e33, X33, hg33, hn33⟩ := e33; have M0 := S.m; replace S := S.ext e33
  exact hca 33 S M0 G rfl hz0 ⟨e33, X33, hg33, hn33⟩ rfl rfl (((S.u 0 rfl)).1.take k (by omega)) ⟨by unfold maxLen; omega, by omega⟩ uT22 iZ3 rfl
 have S0 := S
 clear S; intro a u S G hE hP
 obtain ⟨e37, e39, -⟩ := hE
 obtain ⟨ad37, cap37, e37, X37, hn37⟩ := e37; replace S := S.ext e37
 obtain ⟨b39, e39, X39, hg39, hn39⟩ := e39; replace S := S.ext e39
 have hsep : Sep (ow [rwO intE 3 w.heap.size ad37 cap37 (l.xs.take k), rwO intE 3 w.heap.size (some ⟨b39, 0, none⟩) 1 ([v])]) := by
  refine ⟨?_, ?_, trivial⟩
  ·intro k hk hm
   rcases hm with hm | hm
   ·exact hP 37 39 rfl k (abk_blks e37 hk) (abk_blks e39 hm)
   exact hm
  intro k hk hm
  exact hm
 replace S := S0.ownM S [] G (by intro j f hj; simp at hj) [rwO intE 3 w.heap.size ad37 cap37 (l.xs.take k), rwO intE 3 w.heap.size (some ⟨b39, 0, none⟩) 1 ([v])] hsep (by
  intro f hf; simp only [List.mem_cons, List.not_mem_nil, or_false] at hf; rcases hf with rfl | rfl
  ·exact fun k hk => let ⟨q2, q3⟩ := row_blk X37 k hk; ⟨hz0 ▸ q2, q3⟩
  ·exact fun k hk => let ⟨q2, q3⟩ := (fun k hk => var_blk X39 hg39 k (by have h : abk (some ⟨b39, 0, none⟩) k := hk; rw [abk_one] at h; exact h)) k hk; ⟨hz0 ▸ q2, q3⟩) (by
  intro m f hf; simp only [List.mem_cons, List.not_mem_nil, or_false] at hf; rcases hf with rfl | rfl
  ·exact ⟨Row.lower3 X37 (by have := S0.m.c.size; omega), fun x hx => Enc.mv _ m (LAt.mem (((S0.u 0 rfl)).1.take k (by omega)) x hx)⟩
  exact (let R := row_of_blk (E := intE) (F := F) (ms := []) X39 ([v]) 1 rfl (by decide) (by decide) rfl (by have := S0.m.c.size; omega) (fun x hx => by simp only [List.mem_cons, List.not_mem_nil, or_false] at hx; rw [hx] <;> first | exact v_h); ⟨R.own, fun x hx => R.wf x hx⟩))
 clear S0 hsep
 have hn11 : ((slFrom intE l k).xs).length ≤ 9223372036854775807 := ((sl_from (E := intE) (S.u 0 rfl) k (by omega))).1.len
 refine ap (E := intE) (ys := [v]) S 0 rfl uT22 iZ3 rfl rfl ((S.row 1 rfl).lat (by first | decide | exact Nat.one_pos | exact Nat.succ_pos _)) (S.row 1 rfl).cap_le.2 (S.row 1 rfl).wf ⟨by unfold maxLen; (try simp only [List.length_cons, List.length_nil, List.length_append, List.length_map]); omega, by (try simp only [List.length_cons, List.length_nil, List.length_append, List.length_map]); omega⟩ ?_; clear S; intro a u ad40 cap40 S
 refine ap (E := intE) (ys := (slFrom intE l k).xs) S 0 rfl uT22 iZ3 rfl rfl ((sl_from (E := intE) (S.u 0 rfl) k (by omega))).1 ((sl_from (E := intE) (S.u 0 rfl) k (by omega))).2.2 (LAt.mem ((sl_from (E := intE) (S.u 0 rfl) k (by omega))).1) ⟨by unfold maxLen; (try simp only [List.length_cons, List.length_nil, List.length_append, List.length_map]); omega, by (try simp only [List.length_cons, List.length_nil, List.length_append, List.length_map]); omega⟩ ?_; clear S; intro a u ad44 cap44 S
 refine ens S (la (av rfl)) ?_; clear S; intro a u S
 refine wp_ret ?_
 replace S := S.fz 0 rfl
 refine ret1 rfl S.s rfl ?_
 replace S := S.pk []
 have hx12 : insW l.xs v = (((l.xs.take k) ++ [v]) ++ (slFrom intE l k).xs) := by
  exact putP hb1 hk hn hc1 hc3
 rw [hx12]
 refine ⟨ad44, cap44, rfl, (S.u 1 rfl), S.m.c⟩
set_option maxHeartbeats 2000000 in
set_option maxRecDepth 20000 in
theorem rWithout (w : World) (F : Nat → Prop) (hF : Old F w) (M : MS [] w) (l : Sl Int) (l_w : (slE intE).wf (Fr F []) w.heap l) (v : Int) (v_h : inI64 v) (hb : l.xs.length ≤ 1000) :
 Calls Try.prog 120 #[sV l, iI v] w fun e w' => ∃ (ra : Option Addr) (rc : Nat), e = .returned (.slice ra ((l.xs.filter fun y => !(y == v)).length) rc) ∧ Row intE 3 w.heap.size F [abk ra] w' ra rc (l.xs.filter fun y => !(y == v)) ∧ Tr [] w [abk ra] w' := by
 have : l.xs.length ≤ 9223372036854775807 := (l_w).1.len
 obtain ⟨v_hl, v_hu⟩ : inI64 v := id v_h
 refine go Try.func120 rfl 27 rfl [wfF (slE intE) l] [] hF M ⟨l_w, trivial⟩ trivial ?_
 intro a S
 have hD : ∀ k, In ([] : List BS) k → ¬ F k := fun _ h => h.elim
 refine rs S (la (av rfl)) ?_; clear S; intro a u S
 refine rs S (la (av rfl)) ?_; clear S; intro a u S
 refine wp_seq ?_
 refine rs S (la (av rfl)) ?_; clear S; intro a u S
 refine wp_block ?_
 replace S := S.nr intE 3
 refine lp4 (fun (k : Nat) (out_a : Option Addr) (out_c : Nat) (out : List Int) => [(0, sV l), (1, iI v), (4, .slice none 0 0), (6, iN k), (5, .slice out_a out.length out_c)]) (fun (k : Nat) (out_a : Option Addr) (out_c : Nat) (out : List Int) => [rwO intE 3 w.heap.size out_a out_c out]) (fun (k : Nat) (out_a : Option Addr) (out_c : Nat) (out : List Int) => k ≤ l.xs.length ∧ out = (l.xs.take k).filter fun y => !(y == v)) (fun (k : Nat) (out_a : Option Addr) (out_c : Nat) (out : List Int) => l.xs.length - k) S 0 none 0 ([]) (subM rfl) rfl ?_ ?_
 ·exact ⟨Nat.zero_le _, rfl⟩
 clear S; intro k out_a out_c out a u S hR
 have out_len := (S.row 0 rfl).len_le; simp only [maxLen] at out_len
 obtain ⟨hk, hout⟩ := hR
 have hol : out.length ≤ k := by rw [hout]; exact Nat.le_trans (List.length_filter_le _ _) (by rw [List.length_take]; omega)
 refine wp_seq ?_
 have hn5 : l.xs.length ≤ 9223372036854775807 := ((S.u 0 rfl)).1.len
 refine rs S (tr (mv rfl)<|tr (mv rfl)<|tr (leni uT22 rfl)<|la (lssi rfl rfl)) ?_; clear S; intro a u S
 refine cd S rfl ?_ ?_
 ·intro hc0
  refine wp_skip (then_n (wp_seq (wp_block ?_)))
  obtain ⟨hl7, hu7⟩ : inI64 (l.xs.getD k intE.dflt) := id (((S.u 0 rfl)).1.wf k (by omega))
  refine rs S (tr (mv rfl)<|tr (mv rfl)<|tr (idxi uT22 sZ3 rfl rfl k rfl (by omega) (((S.u 0 rfl)).1.adr (i := k) (by omega)))<|tr (ov fun S=>x_load sC3 (S.e rfl) (((S.u 0 rfl)).1.cell k (by omega) 0 _ rfl))<|tr (mv rfl)<|la (neqi rfl rfl)) ?_; clear S; intro a u S
  refine cd S rfl ?_ ?_
  ·intro hc1
   refine r0 ?_
   refine sp S (tr (mv rfl)<|tr (mv rfl)<|tr (mv rfl)<|tr (idxi uT22 sZ3 rfl rfl k rfl (by omega) (((S.u 0 rfl)).1.adr (i := k) (by omega)))<|la (ov fun S=>x_load sC3 (S.e rfl) (((S.u 0 rfl)).1.cell k (by omega) 0 _ rfl))) ?_; clear S; intro a u S
   refine nbs intE S [(l.xs.getD k intE.dflt)] (x_bs S [(0, iI (l.xs.getD k intE.dflt))] uT22 iZ3) (fun x hx => by simp only [List.mem_cons, List.not_mem_nil, or_false] at hx; rw [hx]; exact (show intE.wf _ _ (l.xs.getD k intE.dflt) from (((S.u 0 rfl)).1.wf k (by omega)))) ?_; clear S; intro a u b24 S
   refine ap (E := intE) (ys := [(l.xs.getD k intE.dflt)]) S 0 rfl uT22 iZ3 rfl rfl (show LAt intE _ _ (some ⟨b24, 0, none⟩) ([(l.xs.getD k intE.dflt)]) from ((S.u 1 rfl)).1) ((S.u 1 rfl)).2.2 (LAt.mem (show LAt intE _ _ (some ⟨b24, 0, none⟩) ([(l.xs.getD k intE.dflt)]) from ((S.u 1 rfl)).1)) ⟨by unfold maxLen; (try simp only [List.length_cons, List.length_nil, List.length_append, List.length_map]); omega, by (try simp only [List.length_cons, List.length_nil, List.length_append, List.length_map]); omega⟩ ?_; clear S; intro a u ad25 cap25 S
   refine en S (la (av rfl)) ?_; clear S; intro a u S
   refine blk_n (then_n ?_)
   refine rg S (tr (mv rfl)<|tr (addi ((k + 1 : Nat) : Int) rfl rfl (w_i64 (by omega)))<|la (av rfl)) ?_; clear S; intro a u S
   refine then_n ?_
   refine ⟨(k + 1), ad25, cap25, (out ++ [(l.xs.getD k intE.dflt)]), S.re (subM rfl) rfl rfl, ?_, ?_⟩
   ·refine ⟨by omega, ?_⟩
    rw [take_up (l := l.xs) (k := k) (m := k + 1) (by omega) rfl intE.dflt, List.filter_append, hout]
    first
    | (rw [filt_no (by assumption)]; done)
    | (rw [filt_yes (by assumption), List.append_nil])
   omega
  intro hc2
  refine wp_skip (blk_n (then_n ?_))
  refine rg S (tr (mv rfl)<|tr (addi ((k + 1 : Nat) : Int) rfl rfl (w_i64 (by omega)))<|la (av rfl)) ?_; clear S; intro a u S
  refine then_n ?_
  refine ⟨(k + 1), out_a, out_c, out, S.re (subM rfl) rfl rfl, ?_, ?_⟩
  ·refine ⟨by omega, ?_⟩
   rw [take_up (l := l.xs) (k := k) (m := k + 1) (by omega) rfl intE.dflt, List.filter_append, hout]
   first
   | (rw [filt_no (by assumption)]; done)
   | (rw [filt_yes (by assumption), List.append_nil])
  omega
 intro hc3
 refine wp_exit (then_e (then_e (blk_e (then_n ?_))))
 refine rs S (tr (mv rfl)<|la (av rfl)) ?_; clear S; intro a u S
 refine wp_ret ?_
 refine ret1 rfl S.s rfl ?_
 have hx12 : (l.xs.filter fun y => !(y == v)) = out := by
  rw [hout, List.take_of_length_le (by omega)]
 rw [hx12]
 refine ⟨out_a, out_c, rfl, (S.row 0 rfl), S.m.c⟩
end Go.Proofs.Ytobggnpnochnnaa.V
namespace Go.Proofs.Ytobggnpnochnnaa.V
open Go.RowKit Go.Proofs.Ytobggnpnochnnaa
set_option linter.unusedVariables false
set_option linter.unusedSimpArgs false
set_option maxHeartbeats 2000000 in
set_option maxRecDepth 20000 in
theorem rStates (w : World) (F : Nat → Prop) (hF : Old F w) (M : MS [] w) (p : Plan) (p_w : planE.wf (Fr F []) w.heap p) (n : Int) (n_h : inI64 n) (hb : p.rounds.xs.length ≤ 100) :
 Calls Try.prog 40 #[.agg (planE.cells p).toArray, iI n] w fun e w' => ∃ (r0 : Sl (Sl Int)), e = .returned (.tuple #[sV r0, iI (stsE (statesP p.staged (rdsP p) n))]) ∧ (slE (slE intE)).wf (Fr F []) w'.heap r0 ∧ (r0.xs.map (fun l => l.xs) = stsD (statesP p.staged (rdsP p) n)) ∧ Tr [] w [] w' := by
 have : p.rounds.xs.length ≤ 9223372036854775807 := (p_w.2).1.len
 obtain ⟨n_hl, n_hu⟩ : inI64 n := id n_h
 have hR0 := rdsP_len p
 refine go Try.func40 rfl 110 rfl [wfF planE p] [] hF M ⟨p_w, trivial⟩ trivial ?_
 intro a S
 have hD : ∀ k, In ([] : List BS) k → ¬ F k := fun _ h => h.elim
 refine rs0 ?_
 refine nbp S (x_box _ (S.e rfl) rfl) ?_; clear S; intro a u b2 S
 refine ens S (tr (av rfl)<|la (av rfl)) ?_; clear S; intro a u S
 refine wp_seq ?_
 refine rs S (tr (mv rfl)<|tr (lssi rfl rfl)<|tr (mv rfl)<|tr (og 14 rfl gf fun S hg=>x_move (S.e rfl))<|tr (og 14 rfl gf fun S hg=>x_gtr (S.p rfl hg) (S.e rfl))<|la (ori rfl rfl rfl)) ?_; clear S; intro a u S
 refine cd S rfl ?_ ?_
 ·intro hc0
  refine rs S (tr (av rfl)<|la (av rfl)) ?_; clear S; intro a u S
  refine wp_ret (then_r ?_)
  refine ret2 rfl S.s rfl rfl ?_
  replace S := S.pk []
  refine ⟨(Sl.mk none 0 ([] : List (Sl Int))), (r2 rfl (vi ?_)), sl_nil, ?_, S.m.c⟩
  ·have e : statesP p.staged (rdsP p) n = none := by unfold statesP; rw [if_pos hc0]
   rw [e]; rfl
  have e : statesP p.staged (rdsP p) n = none := by unfold statesP; rw [if_pos hc0]
  rw [e]; rfl
 intro hc1
 have hS : statesP p.staged (rdsP p) n = stsA p.staged n [zerosP n] (zerosP n) (rdsP p) := if_neg hc1
 refine wp_skip (then_n (rs0 ?_))
 refine sp S (la (mv rfl)) ?_; clear S; intro a u S
 refine mk (E := intE) S (0 : Int) (n).toNat uT22 iZ3 rfl rfl (by omega) (by omega) (by omega) (by unfold maxLen; omega) (fun _ _ => by first | exact ⟨by omega, by omega⟩ | trivial | exact sl_nil) ?_; clear S; intro a u ad19 S
 have hrl19 : (List.replicate (n).toNat (0 : Int)).length = (n).toNat := List.length_replicate
 refine ens S (la (av rfl)) ?_; clear S; intro a u S
 refine rs0 ?_
 refine sp S (la (mv rfl)) ?_; clear S; intro a u S
 replace S := S.fz 1 rfl
 refine nbr (slE intE) S [(Sl.mk ad19 ((n).toNat) (List.replicate (n).toNat (0 : Int)))] (x_bs S [(0, .slice ad19 ((List.replicate (n).toNat (0 : Int)).length) ((n).toNat))] uT66 iZ22) (fun x hx => by simp only [List.mem_cons, List.not_mem_nil, or_false] at hx; rw [hx]; exact (show (slE intE).wf _ _ (Sl.mk ad19 ((n).toNat) (List.replicate (n).toNat (0 : Int))) from (S.u 1 rfl))) ?_; clear S; intro a u b21 S
 refine ens S (la (av rfl)) ?_; clear S; intro a u S
 refine wp_seq ?_
 refine rs S (la (av rfl)) ?_; clear S; intro a u S
 refine wp_block ?_
 replace S := S.ar (wfF (slE intE) (Sl.mk ad19 ((n).toNat) (List.replicate (n).toNat (0 : Int)))) (S.u 1 rfl)
 refine lq5 (fun (j : Nat) (nw : Sl Int) (out_a : Option Addr) (out_c : Nat) (out : List (Sl Int)) => [(1, iI n), (2, pT b2 0), (8, iN j), (6, sV nw), (7, .slice out_a out.length out_c)]) (fun (j : Nat) (nw : Sl Int) (out_a : Option Addr) (out_c : Nat) (out : List (Sl Int)) => [wfF planE p, wfF (slE intE) (Sl.mk ad19 ((n).toNat) (List.replicate (n).toNat (0 : Int))), wfF (slE intE) nw]) (fun (j : Nat) (nw : Sl Int) (out_a : Option Addr) (out_c : Nat) (out : List (Sl Int)) => [blO b2 (planE.cells p) 47, noO, rwO (slE intE) 22 w.heap.size out_a out_c out]) (fun (j : Nat) (nw : Sl Int) (out_a : Option Addr) (out_c : Nat) (out : List (Sl Int)) => j ≤ p.rounds.xs.length ∧ nw.xs.length = n.toNat ∧ out.length = j + 1 ∧ stsA p.staged n (out.map fun l => l.xs) nw.xs ((rdsP p).drop j) = stsA p.staged n [zerosP n] (zerosP n) (rdsP p)) (fun (j : Nat) (nw : Sl Int) (out_a : Option Addr) (out_c : Nat) (out : List (Sl Int)) => p.rounds.xs.length - j) S 0 (Sl.mk ad19 ((n).toNat) (List.replicate (n).toNat (0 : Int))) (some ⟨b21, 0, none⟩) 1 ([(Sl.mk ad19 ((n).toNat) (List.replicate (n).toNat (0 : Int)))]) (subM rfl) rfl rfl ?_ ?_
 ·exact ⟨Nat.zero_le _, by simp [zerosP], rfl, rfl⟩
 clear S; intro j nw out_a out_c out a u S hR
 have out_len := (S.row 2 rfl).len_le; simp only [maxLen] at out_len
 obtain ⟨hj, hnl, hol, hI⟩ := hR
 refine wp_seq ?_
 have hn8 : p.rounds.xs.length ≤ 9223372036854775807 := ((S.u 0 rfl).2).1.len
 refine rs S (tr (mv rfl)<|tr (fldi 0 1 rfl uT47)<|tr (ldk 0 sC45 rfl rfl rfl)<|tr (leni uT45 rfl)<|la (lssi rfl rfl)) ?_; clear S; intro a u S
 refine cd S rfl ?_ ?_
 ·intro hc2
  refine wp_skip (then_n (wp_seq (wp_block ?_)))
  have hn10 : ((p.rounds.xs.getD j (slE chgE).dflt).xs).length ≤ 9223372036854775807 := ((((S.u 0 rfl).2).1.wf j (by omega))).1.len
  refine rs S (tr (fldi 0 1 rfl uT47)<|tr (ldk 0 sC45 rfl rfl rfl)<|tr (mv rfl)<|tr (idxi uT45 sZ122 rfl rfl j rfl (by omega) (((S.u 0 rfl).2).1.adr (i := j) (by omega)))<|tr (ov fun S=>x_load sC122 (S.e rfl) (((S.u 0 rfl).2).1.cell j (by omega) 0 _ rfl))<|la (av rfl)) ?_; clear S; intro a u S
  refine rs0 ?_
  refine nbr (q := 0) intE S [] (x_bsl0 uT22 iZ3) (fun _ h => by simp at h) ?_; clear S; intro a u b34 S
  refine sp S (la (mv rfl)) ?_; clear S; intro a u S
  refine ap (E := intE) (ys := nw.xs) S 3 rfl uT22 iZ3 rfl rfl ((S.u 2 rfl)).1 ((S.u 2 rfl)).2.2 (LAt.mem ((S.u 2 rfl)).1) ⟨by unfold maxLen; (try simp only [List.length_cons, List.length_nil, List.length_append, List.length_map]); omega, by (try simp only [List.length_cons, List.length_nil, List.length_append, List.length_map]); omega⟩ ?_; clear S; intro a u ad36 cap36 S
  refine ens S (la (av rfl)) ?_; clear S; intro a u S
  refine wp_seq ?_
  refine rs S (tr (mv rfl)<|tr (leni uT122 rfl)<|la (eqli rfl rfl)) ?_; clear S; intro a u S
  refine cd S rfl ?_ ?_
  ·intro hc3
   refine rs S (tr (av rfl)<|la (av rfl)) ?_; clear S; intro a u S
   refine wp_ret (then_r (blk_r (then_r (then_r (blk_r (then_r ?_))))))
   refine ret2 rfl S.s rfl rfl ?_
   replace S := S.pk []
   refine ⟨(Sl.mk none 0 ([] : List (Sl Int))), (r2 rfl (vi ?_)), sl_nil, ?_, S.m.c⟩
   ·have e : statesP p.staged (rdsP p) n = none := by rw [hS, ← hI, drop_cons (k := j) (by omega) [], stsA, rdsP_at, if_pos (by omega)]
    rw [e]; rfl
   have e : statesP p.staged (rdsP p) n = none := by rw [hS, ← hI, drop_cons (k := j) (by omega) [], stsA, rdsP_at, if_pos (by omega)]
   rw [e]; rfl
  intro hc4
  refine wp_skip (then_n (wp_seq ?_))
  refine rs S (la (av rfl)) ?_; clear S; intro a u S
  refine wp_block ?_
  refine lp4 (fun (k : Nat) (n2_a : Option Addr) (n2_c : Nat) (n2 : List Int) => [(1, iI n), (2, pT b2 0), (8, iN j), (6, .slice n2_a n2.length n2_c), (7, .slice out_a out.length out_c), (22, iN j), (23, pT b2 (0 + 1)), (24, sV p.rounds), (25, iN p.rounds.xs.length), (26, bD (((j : Nat) : Int) < ((p.rounds.xs.length : Nat) : Int))), (29, pT b2 (0 + 1)), (30, sV p.rounds), (31, iN j), (32, pT (blk p.rounds.a) (off p.rounds.a + j * 1)), (33, sV (p.rounds.xs.getD j (slE chgE).dflt)), (9, sV (p.rounds.xs.getD j (slE chgE).dflt)), (34, .slice (some ⟨b34, 0, none⟩) 0 0), (35, sV nw), (36, .slice ad36 (([] ++ nw.xs).length) cap36), (37, sV (p.rounds.xs.getD j (slE chgE).dflt)), (38, iN (p.rounds.xs.getD j (slE chgE).dflt).xs.length), (39, bD ((((p.rounds.xs.getD j (slE chgE).dflt).xs.length : Nat) : Int) = 0)), (10, iN k)]) (fun (k : Nat) (n2_a : Option Addr) (n2_c : Nat) (n2 : List Int) => [blO b2 (planE.cells p) 47, noO, rwO (slE intE) 22 w.heap.size out_a out_c out, rwO intE 3 w.heap.size n2_a n2_c n2]) (fun (k : Nat) (n2_a : Option Addr) (n2_c : Nat) (n2 : List Int) => k ≤ (p.rounds.xs.getD j (slE chgE).dflt).xs.length ∧ (k = 0 ∨ 0 ≤ lastD (p.rounds.xs.getD j (slE chgE).dflt).xs k) ∧ n2.length = nw.xs.length ∧ rndP p.staged n (lastD (p.rounds.xs.getD j (slE chgE).dflt).xs k) n2 ((p.rounds.xs.getD j (slE chgE).dflt).xs.drop k) = rndP p.staged n (-1) nw.xs (p.rounds.xs.getD j (slE chgE).dflt).xs) (fun (k : Nat) (n2_a : Option Addr) (n2_c : Nat) (n2 : List Int) => (p.rounds.xs.getD j (slE chgE).dflt).xs.length - k) S 0 ad36 cap36 ([] ++ nw.xs) (subM rfl) rfl ?_ ?_
  ·exact ⟨Nat.zero_le _, .inl rfl, rfl, rfl⟩
  clear S; intro k n2_a n2_c n2 a u S hR
  have n2_len := (S.row 3 rfl).len_le; simp only [maxLen] at n2_len
  obtain ⟨hk, hls, h2l, hI2⟩ := hR
  refine wp_seq ?_
  refine rs S (tr (mv rfl)<|tr (mv rfl)<|tr (leni uT122 rfl)<|la (lssi rfl rfl)) ?_; clear S; intro a u S
  refine cd S rfl ?_ ?_
  ·intro hc5
   refine wp_skip (then_n (wp_seq (wp_block (rs0 ?_))))
   obtain ⟨hl17, hu17⟩ : inI64 ((((p.rounds.xs.getD j (slE chgE).dflt).xs).getD k chgE.dflt).dev) := id ((((((S.u 0 rfl).2).1.wf j (by omega))).1.wf k (by omega)).1)
   obtain ⟨hl18, hu18⟩ : inI64 ((((p.rounds.xs.getD j (slE chgE).dflt).xs).getD k chgE.dflt).ver) := id ((((((S.u 0 rfl).2).1.wf j (by omega))).1.wf k (by omega)).2)
   refine sp S (tr (mv rfl)<|tr (mv rfl)<|tr (idxi uT122 sZ124 rfl rfl k rfl (by omega) (((((S.u 0 rfl).2).1.wf j (by omega))).1.adr (i := k) (by omega)))<|la (ov fun S=>x_ldw (S.e rfl) (((((S.u 0 rfl).2).1.wf j (by omega))).1.wcell k (by omega) _ rfl _ rfl) wD124)) ?_; clear S; intro a u S
   refine nbp S (x_allocz _ iZ124 rfl) ?_; clear S; intro a u b11 S
   refine ens S (la (stkw 4 rfl rfl rfl)) ?_; clear S; intro a u S
   refine wp_seq (wp_seq ?_)
   refine dr (P := Try.prog) S 49 [] ((50, .is _) :: (51, .is _) :: (52, .is _) :: (53, .is _) :: (54, .is _) :: (55, .is _) :: (56, .is _) :: (57, .is _) :: (58, .is _) :: (59, .is _) :: (60, .is _) :: (61, .is _) :: (62, .is _) :: (63, .is _) :: (64, .is _) :: (65, .is _) :: (66, .is _) :: (67, .is _) :: (68, .is _) :: (69, .is _) :: (70, .is _) :: (71, .is _) :: (72, .is _) :: (73, .is _) :: (74, .is _) :: (75, .is _) :: (76, .is _) :: (77, .is _) :: (78, .is _) :: (79, .is _) :: (80, .is _) :: (81, .is _) :: (82, .is _) :: (83, .is _) :: (84, .is _) :: (85, .is _) :: (86, .is _) :: (87, .is _) :: (88, .is _) :: (89, .is _) :: (90, .is _) :: (91, .is _) :: (92, .is _) :: (93, .is _) :: (94, .is _) :: (95, .is _) :: (96, .is _) :: (97, .is _) :: (98, .is _) :: []) ([] :: [50] :: [51] :: [52] :: [53] :: [53, 54] :: [53] :: [53, 55, 56] :: [53, 57] :: [58] :: [59] :: [59, 60] :: [59, 61] :: [62] :: [62] :: [62, 64] :: [62, 63, 65] :: [62, 66] :: [62, 67] :: [62] :: [62, 69] :: [62, 68, 70] :: [59, 62, 71] :: [59, 72] :: [73] :: [74] :: [74, 75] :: [74] :: [74] :: [74, 78] :: [74, 77, 79] :: [74, 80] :: [74, 76, 81] :: [74, 82] :: [83] :: [84] :: [84, 85] :: [84, 86] :: [84, 87] :: [88] :: [89] :: [89, 90] :: [89, 91] :: [89, 92] :: [93] :: [93, 94] :: [93, 95] :: [89, 93, 96] :: [89, 97] :: []) [98] _ ⟨qd (fldi 0 0 rfl uT124), qd (ldk 4 sC3 rfl rfl rfl), qd (lssi rfl rfl), qd (mv rfl), qd (og 53 rfl gf fun S hg=>xf (0) 0 uT124 (S.e rfl)), qd (og 53 rfl gf fun S hg=>x_load sC3 (S.p rfl hg) ((S.k 4 rfl).cell (j := 0) rfl)), qd (og 53 rfl gf fun S hg=>x_move (S.e rfl)), qd (og 53 rfl gf fun S hg=>x_geq (S.p rfl hg) (S.p rfl hg)), qd (ori rfl rfl rfl), qd (mv rfl), qd (og 59 rfl gf fun S hg=>x_move (S.e rfl)), qd (og 59 rfl gf fun S hg=>x_gtr (S.p rfl hg) (S.e rfl)), qd (og 59 rfl gf fun S hg=>x_move (S.p rfl hg)), qd (og 62 rfl ggt fun S hg=>x_move (S.e rfl)), qd (og 62 rfl ggt fun S hg=>x_move (S.e rfl)), qd (og 62 rfl ggt fun S hg=>x_sub (S.p rfl hg) (S.e rfl) (r := (((k : Nat) : Int) - 1)) (w_i64 (by omega))), qd (og 62 rfl ggt fun S hg=>x_idx uT122 sZ124 (S.p rfl hg) (S.p rfl hg) ((((k : Nat) : Int) - 1)).toNat (by omega) (by omega) (((((S.u 0 rfl).2).1.wf j (by omega))).1.adr (i := ((((k : Nat) : Int) - 1)).toNat) (by omega))), qd (og 62 rfl ggt fun S hg=>xf (off ((p.rounds.xs.getD j (slE chgE).dflt).a) + ((((k : Nat) : Int) - 1)).toNat * 2) 0 uT124 (S.p rfl hg)), qd (og 62 rfl ggt fun S hg=>x_load sC3 (S.p rfl hg) (((((S.u 0 rfl).2).1.wf j (by omega))).1.cell ((((k : Nat) : Int) - 1)).toNat (by omega) 0 _ rfl)), qd (og 62 rfl ggt fun S hg=>xf (0) 0 uT124 (S.e rfl)), qd (og 62 rfl ggt fun S hg=>x_load sC3 (S.p rfl hg) ((S.k 4 rfl).cell (j := 0) rfl)), qd (og 62 rfl ggt fun S hg=>x_geq (S.p rfl hg) (S.p rfl hg)), qd (og 59 rfl gf fun S hg=>x_and (S.p rfl hg) (fun hl => (S.p rfl (And.intro hg hl))) (S.e rfl)), qd (ori rfl rfl rfl), qd (mv rfl), qd (og 74 rfl gf fun S hg=>xf (0) 1 uT124 (S.e rfl)), qd (og 74 rfl gf fun S hg=>x_load sC3 (S.p rfl hg) ((S.k 4 rfl).cell (j := 1) rfl)), qd (og 74 rfl gf fun S hg=>x_move (S.e rfl)), qd (og 74 rfl gf fun S hg=>xf (0) 0 uT124 (S.e rfl)), qd (og 74 rfl gf fun S hg=>x_load sC3 (S.p rfl hg) ((S.k 4 rfl).cell (j := 0) rfl)), qd (og 74 rfl gf fun S hg=>x_idx uT22 sZ3 (S.p rfl hg) (S.p rfl hg) ((((p.rounds.xs.getD j (slE chgE).dflt).xs).getD k chgE.dflt).dev).toNat (by omega) (by omega) (row_off (S.row 3 rfl) (m := ((((p.rounds.xs.getD j (slE chgE).dflt).xs).getD k chgE.dflt).dev).toNat) (by omega))), qd (og 74 rfl gf fun S hg=>x_load sC3 (S.p rfl hg) (((S.row 3 rfl).latz (by first | decide | exact Nat.one_pos | exact Nat.succ_pos _)).cell ((((p.rounds.xs.getD j (slE chgE).dflt).xs).getD k chgE.dflt).dev).toNat (by omega) 0 _ rfl)), qd (og 74 rfl gf fun S hg=>x_leq (S.p rfl hg) (S.p rfl hg)), qd (ori rfl rfl rfl), qd (mv rfl), qd (og 84 rfl gf fun S hg=>xf (0) 1 uT124 (S.e rfl)), qd (og 84 rfl gf fun S hg=>x_load sC3 (S.p rfl hg) ((S.k 4 rfl).cell (j := 1) rfl)), qd (og 84 rfl gf fun S hg=>x_gtr (S.p rfl hg) (S.e rfl)), qd (ori rfl rfl rfl), qd (mv rfl), qd (og 89 rfl gf fun S hg=>xf (0) 0 uT47 (S.e rfl)), qd (og 89 rfl gf fun S hg=>x_load sC4 (S.p rfl hg) ((S.k 0 rfl).cell (j := 0) rfl)), qd (og 89 rfl gf fun S hg=>x_notp (S.p rfl hg)), qd (og 89 rfl gf fun S hg=>x_move (S.p rfl hg)), qd (og 93 rfl ggt fun S hg=>xf (0) 1 uT124 (S.e rfl)), qd (og 93 rfl ggt fun S hg=>x_load sC3 (S.p rfl hg) ((S.k 4 rfl).cell (j := 1) rfl)), qd (og 93 rfl ggt fun S hg=>x_neq (S.p rfl hg) (S.e rfl)), qd (og 89 rfl gf fun S hg=>x_and (S.p rfl hg) (fun hl => (S.p rfl (And.intro hg hl))) (S.e rfl)), qd (ori rfl rfl rfl), trivial⟩ ?_
   clear S; intro a u S G hE
   refine ent ?_
   refine cd S rfl ?_ ?_
   ·intro hc6
    refine rs S (tr (av rfl)<|la (av rfl)) ?_; clear S; intro a u S
    refine wp_ret (then_r (blk_r (then_r (then_r (blk_r (then_r (blk_r (then_r (then_r (blk_r (then_r ?_)))))))))))
    refine ret2 rfl S.s rfl rfl ?_
    replace S := S.pk []
    refine ⟨(Sl.mk none 0 ([] : List (Sl Int))), (r2 rfl (vi ?_)), sl_nil, ?_, S.m.c⟩
    ·have e : statesP p.staged (rdsP p) n = none := by
      have e2 : rndP p.staged n (-1) nw.xs (p.rounds.xs.getD j (slE chgE).dflt).xs = none := by rw [← hI2, drop_cons (k := k) (by omega) chgE.dflt, rndP_no ((or6.1 hc6).imp (lastD_le hls).2 fun h => h)]
      rw [hS, ← hI, drop_cons (k := j) (by omega) [], stsA, rdsP_at, if_neg (by omega), e2]
     rw [e]; rfl
    have e : statesP p.staged (rdsP p) n = none := by
     have e2 : rndP p.staged n (-1) nw.xs (p.rounds.xs.getD j (slE chgE).dflt).xs = none := by rw [← hI2, drop_cons (k := k) (by omega) chgE.dflt, rndP_no ((or6.1 hc6).imp (lastD_le hls).2 fun h => h)]
     rw [hS, ← hI, drop_cons (k := j) (by omega) [], stsA, rdsP_at, if_neg (by omega), e2]
    rw [e]; rfl
   intro hc7
   refine wp_skip (then_n (r0 ?_))
   refine sp S (tr (mv rfl)<|tr (fldi 0 0 rfl uT124)<|tr (ldk 4 sC3 rfl rfl rfl)<|tr (fldi 0 1 rfl uT124)<|tr (ldk 4 sC3 rfl rfl rfl)<|la (ov fun S=>x_idx uT22 sZ3 (S.e rfl) (S.e rfl) ((((p.rounds.xs.getD j (slE chgE).dflt).xs).getD k chgE.dflt).dev).toNat (by omega) (by omega) (row_off (S.row 3 rfl) (m := ((((p.rounds.xs.getD j (slE chgE).dflt).xs).getD k chgE.dflt).dev).toNat) (by omega)))) ?_; clear S; intro a u S
   refine sp S (la (str (E := intE) 3 (by kernel_rfl) rfl rfl rfl ((((p.rounds.xs.getD j (slE chgE).dflt).xs).getD k chgE.dflt).dev).toNat 0 (by omega) (by first | decide | exact Nat.one_pos | exact Nat.succ_pos _) ((((p.rounds.xs.getD j (slE chgE).dflt).xs).getD k chgE.dflt).ver) (fun S=>(((((S.u 0 rfl).2).1.wf j (by omega))).1.wf k (by omega)).2) rfl (by first | rfl | (show _ = _ * 1 + 0; omega) | (simp [intE]; omega) | simp [intE]) rfl)) ?_; clear S; intro a u S
   have hls21 : (n2.set ((((p.rounds.xs.getD j (slE chgE).dflt).xs).getD k chgE.dflt).dev).toNat ((((p.rounds.xs.getD j (slE chgE).dflt).xs).getD k chgE.dflt).ver)).length = n2.length := by simp
   refine nn (blk_n (then_n ?_))
   refine rg S (tr (mv rfl)<|tr (addi ((k + 1 : Nat) : Int) rfl rfl (w_i64 (by omega)))<|la (av rfl)) ?_; clear S; intro a u S
   refine then_n ?_
   refine ⟨(k + 1), n2_a, n2_c, (n2.set ((((p.rounds.xs.getD j (slE chgE).dflt).xs).getD k chgE.dflt).dev).toNat ((((p.rounds.xs.getD j (slE chgE).dflt).xs).getD k chgE.dflt).ver)), S.re ⟨rfl, rfl, rfl, (by first | rfl | (simp only [List.length_set]; rfl)), rfl, rfl, rfl, rfl, rfl, rfl, rfl, rfl, rfl, rfl, rfl, rfl, rfl, rfl, rfl, rfl, rfl, rfl, rfl, trivial⟩ rfl rfl, ?_, ?_⟩
   ·refine ⟨by omega, .inr (by rw [lastD_up]; omega), by rw [List.length_set]; exact h2l, ?_⟩
    rw [← hI2, drop_cons (k := k) (by omega) chgE.dflt, lastD_up, rndP_go (last := lastD (p.rounds.xs.getD j (slE chgE).dflt).xs k) (fun h => hc7 (or6.2 (h.imp (lastD_le hls).1 fun h => h)))]
   omega
  intro hc8
  refine wp_exit (then_e (then_e (blk_e (then_n (r0 ?_)))))
  refine sp S (tr (mv rfl)<|la (mv rfl)) ?_; clear S; intro a u S
  replace S := S.fz 3 rfl
  refine nbs (slE intE) S [(Sl.mk n2_a n2_c n2)] (x_bs S [(0, .slice n2_a n2.length n2_c)] uT66 iZ22) (fun x hx => by simp only [List.mem_cons, List.not_mem_nil, or_false] at hx; rw [hx]; exact (show (slE intE).wf _ _ (Sl.mk n2_a n2_c n2) from (S.u 3 rfl))) ?_; clear S; intro a u b107 S
  refine ap (E := (slE intE)) (ys := [(Sl.mk n2_a n2_c n2)]) S 2 rfl uT66 iZ22 rfl rfl (show LAt (slE intE) _ _ (some ⟨b107, 0, none⟩) ([(Sl.mk n2_a n2_c n2)]) from ((S.u 4 rfl)).1) ((S.u 4 rfl)).2.2 (LAt.mem (show LAt (slE intE) _ _ (some ⟨b107, 0, none⟩) ([(Sl.mk n2_a n2_c n2)]) from ((S.u 4 rfl)).1)) ⟨by unfold maxLen; (try simp only [List.length_cons, List.length_nil, List.length_append, List.length_map]); omega, by (try simp only [List.length_cons, List.length_nil, List.length_append, List.length_map]); omega⟩ ?_; clear S; intro a u ad108 cap108 S
  refine en S (la (av rfl)) ?_; clear S; intro a u S
  refine blk_n (then_n ?_)
  refine rg S (tr (mv rfl)<|tr (addi ((j + 1 : Nat) : Int) rfl rfl (w_i64 (by omega)))<|la (av rfl)) ?_; clear S; intro a u S
  have hnw := (S.u 3 rfl)
  replace S := S.rt 2
  replace S := S.ar (wfF (slE intE) (Sl.mk n2_a n2_c n2)) hnw
  refine then_n ?_
  refine ⟨(j + 1), (Sl.mk n2_a n2_c n2), ad108, cap108, (out ++ [(Sl.mk n2_a n2_c n2)]), S.re (subM rfl) rfl rfl, ?_, ?_⟩
  ·refine ⟨by omega, by show n2.length = _; rw [h2l]; exact hnl, by simp; omega, ?_⟩
   have e2 : rndP p.staged n (-1) nw.xs (p.rounds.xs.getD j (slE chgE).dflt).xs = some n2 := by rw [← hI2, List.drop_of_length_le (by omega)]; rfl
   rw [← hI, drop_cons (k := j) (by omega) [], stsA, rdsP_at, if_neg (by omega), e2, List.map_append]; rfl
  omega
 intro hc9
 refine wp_exit (then_e (then_e (blk_e (then_n ?_))))
 refine rs S (tr (mv rfl)<|tr (av rfl)<|la (av rfl)) ?_; clear S; intro a u S
 refine wp_ret ?_
 replace S := S.fz 2 rfl
 refine ret2 rfl S.s rfl rfl ?_
 replace S := S.pk []
 refine ⟨(Sl.mk out_a out_c out), (r2 rfl (vi ?_)), (S.u 3 rfl), ?_, S.m.c⟩
 ·have e : statesP p.staged (rdsP p) n = some (out.map fun l => l.xs) := by rw [hS, ← hI, List.drop_of_length_le (by omega)]; rfl
  rw [e]; rfl
 have e : statesP p.staged (rdsP p) n = some (out.map fun l => l.xs) := by rw [hS, ← hI, List.drop_of_length_le (by omega)]; rfl
 rw [e]; rfl
end Go.Proofs.Ytobggnpnochnnaa.V
set_option linter.unusedVariables false
set_option linter.unusedSimpArgs false
namespace Go.Proofs.Ytobggnpnochnnaa.V
open Go.RowKit
def sameC (a b : Ctrl) : Prop := a.round = b.round ∧ (a.back = true ↔ b.back = true) ∧ a.seq = b.seq ∧ a.target.xs = b.target.xs ∧ a.known.xs = b.known.xs ∧ a.waiting.xs = b.waiting.xs
instance (a b : Ctrl) : Decidable (sameC a b) := by unfold sameC; infer_instance
theorem recEq {x y : Rec} (h : ¬ ¬ (x.kind = y.kind ∧ x.dev = y.dev ∧ x.inc = y.inc ∧ x.seq = y.seq)) : x = y := by
  obtain ⟨h1, h2, h3, h4⟩ := Classical.not_not.1 h
  cases x; cases y; simp_all
instance : DecidableEq Rec := fun x y => decidable_of_iff (x.kind = y.kind ∧ x.dev = y.dev ∧ x.inc = y.inc ∧ x.seq = y.seq) ⟨fun h => recEq (fun n => n h), fun h => by subst h; exact ⟨rfl, rfl, rfl, rfl⟩⟩
theorem eq_of_all {α : Type} {l m : List α} (d : α) (h : l.length = m.length) (e : ∀ i, i < l.length → l.getD i d = m.getD i d) : l = m := by
  apply List.ext_getElem h
  intro i h1 h2
  have := e i h1
  rw [List.getD_eq_getElem?_getD, List.getD_eq_getElem?_getD, List.getElem?_eq_getElem h1, List.getElem?_eq_getElem h2] at this
  exact this
end Go.Proofs.Ytobggnpnochnnaa.V
set_option linter.unusedVariables false
set_option linter.unusedSimpArgs false
namespace Go.Proofs.Ytobggnpnochnnaa.V
open Go.RowKit
def slSub {α : Type} (E : Enc α) (s : Sl α) (i j : Nat) : Sl α := slFrom E ⟨s.a, s.c, s.xs.take j⟩ i
theorem sl_sub {α : Type} {E : Enc α} {D : Nat → Prop} {h : Array Obj} {s : Sl α} (H : (slE E).wf D h s) (i j : Nat) (hij : i ≤ j) (hj : j ≤ s.xs.length) : (slE E).wf D h (slSub E s i j) :=
  sl_from (sl_take H j hj) i (by simp; omega)
theorem x_slsub {P : Program} {a : Act} {w : World} {d : Option Tmp} {ty : TypeId} {pos : String} {af : Array Edge} {g : Option (Nat × Bool)} {α : Type} (E : Enc α) {x y z : Operand} {t e : TypeId} (s : Sl α) {k k2 : IntKind} {i j : Int} {v : Value} {by_ : Nat} (ht : P.underlying t = some (.slice e)) (hi : (P.info? e).map (fun i => (i.zero, i.size, i.bytes)) = some (some v, E.n, by_)) (hx : a.eval x = .slice s.a s.xs.length s.c) (hy : a.eval y = .int k i) (hz : a.eval z = .int k2 j) (p m : Nat) (hp : i = (p : Int)) (hm : j = (m : Int)) (hpm : p ≤ m) (hl : m ≤ s.xs.length) (hc : s.xs.length ≤ s.c) :
    (execOp a.eval ⟨d, .slice t x (some y) (some z) none, ty, pos, af, g⟩).run P w = .ok (.value (.slice (slSub E s p m).a (slSub E s p m).xs.length (slSub E s p m).c)) w := by
  subst hp hm
  obtain ⟨ie, hie, _, hs, _⟩ := info_of hi
  have h1 : m ≤ s.c := by omega
  have h2 : min m s.xs.length - p = m - p := by omega
  simp [execOp, Instr.sliceAt, Instr.slice, Instr.sliceBounds, Instr.sliceBound, run_underlying ht, hx, hy, hz, asIntOf, hpm, h1, sizeOf, typeInfo, hie, hs, slSub, slFrom, h2]
end Go.Proofs.Ytobggnpnochnnaa.V
set_option linter.unusedVariables false
set_option linter.unusedSimpArgs false
namespace Go.Proofs.Ytobggnpnochnnaa.V
open Go.RowKit
def recX (x : List Int) : Rec := ⟨x.getD 0 0, x.getD 1 0, num4 x 2, num4 x 6⟩
def subB (b : List Int) (k : Nat) : List Int := (b.take (14 * k + 14)).drop (14 * k)
def goodX (x : List Int) : Prop := recOK (recX x) ∧ num4 x 10 = crcL (x.take 10)
instance (x : List Int) : Decidable (goodX x) := by unfold goodX; infer_instance
def decF (b : List Int) : Nat → Nat → Nat
  | 0, k => k
  | f + 1, k => if 14 * k + 14 ≤ b.length ∧ goodX (subB b k) then decF b f (k + 1) else k
def decN (b : List Int) : Nat := decF b 4096 0
def recsP (b : List Int) (n : Nat) : List Rec := (List.range n).map fun k => recX (subB b k)
theorem recsP_len (b : List Int) (n : Nat) : (recsP b n).length = n := by unfold recsP; simp
theorem recsP_up (b : List Int) (n : Nat) : recsP b (n + 1) = recsP b n ++ [recX (subB b n)] := by unfold recsP; rw [List.range_succ, List.map_append]; rfl
theorem decF_no {b : List Int} {f k : Nat} (h : f = 0 ∨ ¬ (14 * k + 14 ≤ b.length ∧ goodX (subB b k))) : decF b f k = k := by
  cases f with
  | zero => rfl
  | succ f => rw [decF, if_neg (h.resolve_left (by omega))]
theorem decF_go {b : List Int} {f k : Nat} (h1 : 14 * k + 14 ≤ b.length) (h2 : goodX (subB b k)) (hf : 0 < f) : decF b (f - 1) (k + 1) = decF b f k := by
  cases f with
  | zero => omega
  | succ f => rw [decF, if_pos ⟨h1, h2⟩]; rfl
theorem num4_in {l : List Int} {k : Nat} (h : ∀ i, i < l.length → inU8 (l.getD i 0)) (hk : k + 4 ≤ l.length) : inU32 (num4 l k) := by
  have h0 := h k (by omega)
  have h1 := h (k + 1) (by omega)
  have h2 := h (k + 2) (by omega)
  have h3 := h (k + 3) (by omega)
  unfold num4
  omega
end Go.Proofs.Ytobggnpnochnnaa.V
set_option linter.unusedVariables false
set_option linter.unusedSimpArgs false
namespace Go.Proofs.Ytobggnpnochnnaa.V
open Go.RowKit
section
variable {n : Nat} {rds : List (List Chg)} {sts : List (List Int)} {c : Ctl}
theorem CtlOK.sent (h : CtlOK n rds.length c) (l : List Int) : CtlOK n rds.length {c with sent := l} := ⟨h.tg, h.kn, h.wt, h.rd, h.sq⟩
theorem advA_ok (P : PlanOK n rds sts) (h : CtlOK n rds.length c) : CtlOK n rds.length (advA rds sts c) ∧ (advA rds sts c).sent.length ≤ c.sent.length + 40000 ∧ (advA rds sts c).back = c.back := by
  have := advC_ok P 40 h
  exact ⟨this.1, by have := this.2.1; unfold advA; omega, this.2.2⟩
theorem rmC_ok (P : PlanOK n rds sts) (h : CtlOK n rds.length c) (d : Int) : CtlOK n rds.length (rmC rds sts c d) ∧ (rmC rds sts c d).sent.length ≤ c.sent.length + 40000 := by
  have h2 : CtlOK n rds.length {c with waiting := c.waiting.filter fun y => !(y == d)} := ⟨h.tg, h.kn, h.wt.filt _, h.rd, h.sq⟩
  have := advA_ok P h2
  exact ⟨this.1, this.2.1⟩
theorem helloC_ok (h : CtlOK n rds.length c) {d i : Int} (h0 : 0 ≤ d) (h1 : d < n) : CtlOK n rds.length (helloC c d i) ∧ (helloC c d i).sent.length ≤ c.sent.length + 1 := by
  unfold helloC
  split
  · exact ⟨⟨h.tg, by simp [h.kn], h.wt.ins h0 h1, h.rd, h.sq⟩, by simp⟩
  · exact ⟨h, by omega⟩
theorem abortC_ok (P : PlanOK n rds sts) (h : CtlOK n rds.length c) : CtlOK n rds.length (abortC rds sts c) ∧ (abortC rds sts c).sent.length ≤ c.sent.length + 41000 := by
  unfold abortC
  split
  · exact ⟨h, by omega⟩
  · rename_i hb
    obtain ⟨h1, h2⟩ := abort_ok P h hb
    have := advA_ok P h1
    exact ⟨this.1, by have := this.2.1; omega⟩
/-- what a record does, before the list of commands is emptied -/
def stepK (rds : List (List Chg)) (sts : List (List Int)) (c : Ctl) (r : Rec) : Ctl :=
  if r.kind = 1 then ackC rds sts c r.dev r.inc r.seq else if r.kind = 2 then helloC c r.dev r.inc else if r.kind = 3 then rmC rds sts c r.dev else if r.kind = 4 then abortC rds sts c else c
def stepJ (rds : List (List Chg)) (sts : List (List Int)) (c : Ctl) (r : Rec) : Ctl := {stepK rds sts c r with sent := []}
theorem ackC_ok (P : PlanOK n rds sts) (h : CtlOK n rds.length c) (d i s : Int) : CtlOK n rds.length (ackC rds sts c d i s) ∧ (ackC rds sts c d i s).sent.length ≤ c.sent.length + 40000 := by
  unfold ackC
  split
  · exact rmC_ok P h d
  · exact ⟨h, by omega⟩
theorem stepK_ok (P : PlanOK n rds sts) (h : CtlOK n rds.length c) {r : Rec} (h0 : 0 ≤ r.dev) (h1 : r.dev < n) : CtlOK n rds.length (stepK rds sts c r) := by
  unfold stepK
  repeat' split
  · exact (ackC_ok P h _ _ _).1
  · exact (helloC_ok h h0 h1).1
  · exact (rmC_ok P h _).1
  · exact (abortC_ok P h).1
  · exact h
theorem stepJ_ok (P : PlanOK n rds sts) (h : CtlOK n rds.length c) {r : Rec} (h0 : 0 ≤ r.dev) (h1 : r.dev < n) : CtlOK n rds.length (stepJ rds sts c r) := (stepK_ok P h h0 h1).sent []
end
/-- the state after a list of records, from the beginning -/
def c0J (rds : List (List Chg)) (sts : List (List Int)) (n : Int) : Ctl := {startC rds sts (newC n) with sent := []}
def foldJ (rds : List (List Chg)) (sts : List (List Int)) (n : Int) (l : List Rec) : Ctl := l.foldl (stepJ rds sts) (c0J rds sts n)
def allJ (n : Int) (l : List Rec) : Prop := ∀ r ∈ l, recOK r ∧ r.dev < n
instance (n : Int) (l : List Rec) : Decidable (allJ n l) := by unfold allJ; infer_instance
/-- the answer of Replay: the error, and the state -/
def replE (p : Plan) (n : Int) (l : List Rec) : Int := if ¬ ((statesP p.staged (rdsP p) n).isSome = true ∧ p.rounds.xs.length ≤ 16) then 1 else if 4096 < l.length then 3 else if allJ n l then 0 else 1
def ctlR (r : Ctrl) (c : Ctl) : Prop := r.round = c.round ∧ r.back = c.back ∧ r.seq = c.seq ∧ r.target.xs = c.target ∧ r.known.xs = c.known ∧ r.waiting.xs = c.waiting
def zeroC : Ctl := ⟨0, false, 0, [], [], [], []⟩
def replC (p : Plan) (n : Int) (l : List Rec) : Ctl := if replE p n l = 0 then foldJ (rdsP p) (stsD (statesP p.staged (rdsP p) n)) n l else zeroC
theorem same_of_ctlR {x y : Ctrl} {c : Ctl} (h : ctlR x c) (k : ctlR y c) : sameC x y := by
  obtain ⟨h1, h2, h3, h4, h5, h6⟩ := h
  obtain ⟨k1, k2, k3, k4, k5, k6⟩ := k
  exact ⟨h1.trans k1.symm, by rw [h2, k2], h3.trans k3.symm, h4.trans k4.symm, h5.trans k5.symm, h6.trans k6.symm⟩
theorem foldJ_app {rds : List (List Chg)} {sts : List (List Int)} {n : Int} (l : List Rec) (r : Rec) : foldJ rds sts n (l ++ [r]) = stepJ rds sts (foldJ rds sts n l) r := by
  unfold foldJ; rw [List.foldl_append]; rfl
theorem startC_new {n : Nat} {rds : List (List Chg)} {sts : List (List Int)} (P : PlanOK n rds sts) : CtlOK n rds.length (startC rds sts (newC n)) ∧ (startC rds sts (newC n)).sent.length ≤ 1000 := by
  have h := startC_ok P newC_ok fun _ _ => ⟨fun _ => Int.le_refl 0, fun h => by cases h⟩
  exact ⟨h.1, by simpa [newC] using h.2.2.2⟩
end Go.Proofs.Ytobggnpnochnnaa.V
set_option linter.unusedVariables false
set_option linter.unusedSimpArgs false
namespace Go.Proofs.Ytobggnpnochnnaa.V
open Go.RowKit
def noS (c : Ctl) : Ctl := {c with sent := []}
theorem foldl_chgN {st : List Int} : ∀ (l : List Chg) (c : Ctl), noS (l.foldl (chgC st) c) = l.foldl (chgC st) (noS c)
  | [], _ => rfl
  | x :: t, c => by rw [List.foldl_cons, foldl_chgN t, List.foldl_cons]; rfl
theorem startN {rds : List (List Chg)} {sts : List (List Int)} (c : Ctl) : noS (startC rds sts c) = noS (startC rds sts (noS c)) := by
  unfold startC
  by_cases h : c.round < 0 ∨ (rds.length : Int) ≤ c.round
  · rw [if_pos h, if_pos (show (noS c).round < 0 ∨ (rds.length : Int) ≤ (noS c).round from h)]; rfl
  · rw [if_neg h, if_neg (show ¬ ((noS c).round < 0 ∨ (rds.length : Int) ≤ (noS c).round) from h)]
    have hq : ∀ c1 c2 : Ctl, noS c1 = noS c2 → noS {c1 with sent := c1.sent ++ c1.waiting} = noS {c2 with sent := c2.sent ++ c2.waiting} := by
      intro c1 c2 e
      cases c1; cases c2
      simp_all [noS]
    refine hq _ _ ?_
    rw [foldl_chgN, foldl_chgN]; rfl
theorem advN {rds : List (List Chg)} {sts : List (List Int)} : ∀ (f : Nat) (c : Ctl), noS (advC rds sts f c) = noS (advC rds sts f (noS c))
  | 0, c => rfl
  | f + 1, c => by
    rw [advC, advC]
    by_cases h1 : 0 < c.waiting.length
    · rw [if_pos h1, if_pos (show 0 < (noS c).waiting.length from h1)]; rfl
    · rw [if_neg h1, if_neg (show ¬ 0 < (noS c).waiting.length from h1)]
      by_cases h2 : c.back = true ∧ 0 ≤ c.round
      · rw [if_pos h2, if_pos (show (noS c).back = true ∧ 0 ≤ (noS c).round from h2), advN f, startN]
        exact (advN f (startC rds sts (noS {c with round := c.round - 1}))).symm
      · rw [if_neg h2, if_neg (show ¬ ((noS c).back = true ∧ 0 ≤ (noS c).round) from h2)]
        by_cases h3 : ¬ c.back = true ∧ c.round < rds.length
        · rw [if_pos h3, if_pos (show ¬ (noS c).back = true ∧ (noS c).round < rds.length from h3), advN f, startN]
          exact (advN f (startC rds sts (noS {c with round := c.round + 1}))).symm
        · rw [if_neg h3, if_neg (show ¬ (¬ (noS c).back = true ∧ (noS c).round < rds.length) from h3)]; rfl
theorem rmN {rds : List (List Chg)} {sts : List (List Int)} (c : Ctl) (d : Int) : noS (rmC rds sts c d) = noS (rmC rds sts (noS c) d) := advN 40 _
theorem stepN {rds : List (List Chg)} {sts : List (List Int)} (c : Ctl) (r : Rec) : stepJ rds sts c r = stepJ rds sts (noS c) r := by
  show noS (stepK rds sts c r) = noS (stepK rds sts (noS c) r)
  unfold stepK
  split
  · unfold ackC
    by_cases h : r.inc = c.known.getD r.dev.toNat 0 ∧ r.seq = c.seq
    · rw [if_pos h, if_pos (show r.inc = (noS c).known.getD r.dev.toNat 0 ∧ r.seq = (noS c).seq from h)]; exact rmN c r.dev
    · rw [if_neg h, if_neg (show ¬ (r.inc = (noS c).known.getD r.dev.toNat 0 ∧ r.seq = (noS c).seq) from h)]; rfl
  · split
    · unfold helloC
      by_cases h : c.known.getD r.dev.toNat 0 < r.inc
      · rw [if_pos h, if_pos (show (noS c).known.getD r.dev.toNat 0 < r.inc from h)]; rfl
      · rw [if_neg h, if_neg (show ¬ (noS c).known.getD r.dev.toNat 0 < r.inc from h)]; rfl
    · split
      · exact rmN c r.dev
      · split
        · unfold abortC
          by_cases h : c.back = true
          · rw [if_pos h, if_pos (show (noS c).back = true from h)]; rfl
          · rw [if_neg h, if_neg (show ¬ (noS c).back = true from h)]
            show noS (advC rds sts 40 _) = noS (advC rds sts 40 _)
            rw [advN, startN]; exact (advN 40 (startC rds sts (noS {c with back := true}))).symm
        · rfl
/-- a machine behind the records l -/
structure MachAt (R : List (List Chg)) (S : List (List Int)) (n : Int) (m : Mach) (l : List Rec) : Prop where
  ok : MachOK m
  sn : m.sent.xs.length ≤ 2000
  tg : (m.target.xs.length : Int) = n
  rd : rdsM m = R
  st : stsM m = S
  ab : noS (absM m) = foldJ R S n l
  al : allJ n l
theorem MachAt.step {R : List (List Chg)} {S : List (List Int)} {n : Int} {m m1 : Mach} {l : List Rec} {r : Rec} (h : MachAt R S n m l) (k : KeepM m m1) (e : absM m1 = stepJ (rdsM m) (stsM m) (absM m) r) (h1 : recOK r) (h2 : r.dev < n) : MachAt R S n m1 (l ++ [r]) := by
  have h0 : 0 ≤ r.dev := by unfold recOK at h1; omega
  have hc := stepJ_ok h.ok.1 h.ok.2 (r := r) h0 (by have := h.tg; omega)
  have hs : m1.sent.xs = [] := by show (absM m1).sent = []; rw [e]; rfl
  have ht : m1.target.xs.length = m.target.xs.length := by show (absM m1).target.length = _; rw [e]; exact hc.tg
  refine ⟨machOK_of h.ok k (by rw [e]; exact hc), by rw [hs]; decide, by rw [ht]; exact h.tg, (keep_rds k).trans h.rd, (keep_sts k).trans h.st, ?_, fun x hx => ?_⟩
  · rw [foldJ_app, ← h.ab, ← h.rd, ← h.st, ← stepN, e]; rfl
  · rcases List.mem_append.1 hx with hx | hx
    · exact h.al x hx
    · obtain rfl : x = r := by simpa using hx
      exact ⟨h1, h2⟩
theorem MachAt.new {R : List (List Chg)} {S : List (List Int)} {n : Int} {m : Mach} (hn : 0 ≤ n) (h : MachOK m) (hr : rdsM m = R) (hs : stsM m = S) (e : absM m = startC R S (newC n)) : MachAt R S n m [] := by
  obtain ⟨k, rfl⟩ : ∃ k : Nat, n = k := ⟨n.toNat, by omega⟩
  have ht0 : (startC R S (newC k)).target.length = k := by
    unfold startC
    split
    · simp [newC, zerosP]
    · have : ∀ (l : List Chg) (st : List Int) (c : Ctl), (l.foldl (chgC st) c).target.length = c.target.length := by
        intro l st
        induction l with
        | nil => intro c; rfl
        | cons x t ih => intro c; rw [List.foldl_cons, ih]; simp [chgC]
      exact (this _ _ _).trans (by simp [newC, zerosP])
  have ht : m.target.xs.length = k := by show (absM m).target.length = k; rw [e]; exact ht0
  have P := h.1
  rw [hr, hs, ht] at P
  refine ⟨h, ?_, by rw [ht], hr, hs, by rw [e]; rfl, fun r hr => by simp at hr⟩
  have : (absM m).sent.length ≤ 1000 := by rw [e]; exact (startC_new P).2
  exact Nat.le_trans this (by decide)
structure LogAt (R : List (List Chg)) (S : List (List Int)) (n : Int) (g : Lg) (l : List Rec) : Prop where
  ma : MachAt R S n g.m.2 l
  ls : g.l.xs = l
  le : l.length ≤ 4096
def appE (n : Int) (k : Nat) (r : Rec) : Int := if ¬ recOK r ∨ n ≤ r.dev then 1 else if 4096 ≤ k then 3 else 0
theorem LogAt.new {R : List (List Chg)} {S : List (List Int)} {n : Int} {g : Lg} (h : MachAt R S n g.m.2 []) (e : g.l.xs = []) : LogAt R S n g [] := ⟨h, e, by decide⟩
theorem LogAt.app {R : List (List Chg)} {S : List (List Int)} {n : Int} {g g1 : Lg} {l : List Rec} {r : Rec} (h : LogAt R S n g l) (e0 : appE n l.length r = 0) (k : KeepM g.m.2 g1.m.2) (e : absM g1.m.2 = stepJ (rdsM g.m.2) (stsM g.m.2) (absM g.m.2) r) (e2 : g1.l.xs = g.l.xs ++ [r]) : LogAt R S n g1 (l ++ [r]) := by
  unfold appE at e0
  split at e0
  · cases e0
  · rename_i hn
    split at e0
    · cases e0
    · obtain ⟨h1, h2⟩ := not_or.1 hn
      exact ⟨h.ma.step k e (Classical.not_not.1 h1) (by omega), by rw [e2, h.ls], by rw [List.length_append, List.length_singleton]; omega⟩
def bytesJ (l : List Rec) : List Int := l.flatMap fun r => if recOK r then encR r else []
theorem bytesJ_up {l : List Rec} {k : Nat} (h : k < l.length) (d : Rec) : bytesJ (l.take (k + 1)) = bytesJ (l.take k) ++ (if recOK (l.getD k d) then encR (l.getD k d) else []) := by
  unfold bytesJ; rw [take_up h rfl d, List.flatMap_append]; simp
theorem enc_len (r : Rec) : (if recOK r then encR r else []).length ≤ 14 := by split <;> simp [encR_len]
theorem bytesJ_len : ∀ (l : List Rec), (bytesJ l).length ≤ 14 * l.length
  | [] => by simp [bytesJ]
  | r :: t => by
    have := bytesJ_len t
    unfold bytesJ at *
    rw [List.flatMap_cons, List.length_append, List.length_cons]
    have h1 : (if recOK r then encR r else []).length ≤ 14 := by split <;> simp [encR_len]
    omega
theorem decF_good {b : List Int} : ∀ (f k j : Nat), k ≤ j → j < decF b f k → 14 * j + 14 ≤ b.length ∧ goodX (subB b j)
  | 0, k, j, h, hj => by rw [decF] at hj; omega
  | f + 1, k, j, h, hj => by
    rw [decF] at hj
    split at hj
    · rename_i hg
      rcases Nat.eq_or_lt_of_le h with e | e
      · subst e; exact hg
      · exact decF_good f (k + 1) j e hj
    · omega
theorem decF_le {b : List Int} : ∀ (f k : Nat), decF b f k ≤ k + f
  | 0, k => by rw [decF]; omega
  | f + 1, k => by
    rw [decF]
    split
    · have := decF_le (b := b) f (k + 1); omega
    · omega
theorem decN_le (b : List Int) : decN b ≤ 4096 := by have := decF_le (b := b) 4096 0; unfold decN; omega
theorem recsP_ok {b : List Int} {r : Rec} (h : r ∈ recsP b (decN b)) : recOK r := by
  unfold recsP at h
  obtain ⟨j, hj, rfl⟩ := List.mem_map.1 h
  exact (decF_good 4096 0 j (Nat.zero_le _) (List.mem_range.1 hj)).2.1
theorem replC_z {p : Plan} {n : Int} {l : List Rec} (h : replE p n l ≠ 0) : replC p n l = zeroC := if_neg h
def recsJ (b : List Int) : List Rec := recsP b (decN b)
def openN {α : Type} (q : Option α) (b : List Int) : Int := if q.isSome = true then ((14 * decN b : Nat) : Int) else 0
end Go.Proofs.Ytobggnpnochnnaa.V
namespace Go.Proofs.Ytobggnpnochnnaa.V
open Go.RowKit
structure Brn where
  staged : Bool
  rounds : Sl (Sl Chg)
  states : Sl (Sl Int)
  round : Int
  back : Bool
  seq : Int
  target : Sl Int
  known : Sl Int
  waiting : Sl Int
def brE : Enc Brn where
  n := 9
  cells x := [.bool (decide (x.staged = true)), .slice x.rounds.a x.rounds.xs.length x.rounds.c, .slice x.states.a x.states.xs.length x.states.c, .int .i64 x.round, .bool (decide (x.back = true)), .int .i64 x.seq, .slice x.target.a x.target.xs.length x.target.c, .slice x.known.a x.known.xs.length x.known.c, .slice x.waiting.a x.waiting.xs.length x.waiting.c]
  dflt := ⟨false, ⟨none, 0, []⟩, ⟨none, 0, []⟩, 0, false, 0, ⟨none, 0, []⟩, ⟨none, 0, []⟩, ⟨none, 0, []⟩⟩
  wf D h x := True ∧ (slE (slE chgE)).wf D h x.rounds ∧ (slE (slE intE)).wf D h x.states ∧ inI64 x.round ∧ True ∧ inI64 x.seq ∧ (slE intE).wf D h x.target ∧ (slE intE).wf D h x.known ∧ (slE intE).wf D h x.waiting
  len _ := rfl
  one x u hu := by simp only [List.mem_cons, List.not_mem_nil, or_false] at hu; rcases hu with rfl | rfl | rfl | rfl | rfl | rfl | rfl | rfl | rfl <;> rfl
  keep k h := ⟨h.1, (slE (slE chgE)).keep k h.2.1, (slE (slE intE)).keep k h.2.2.1, h.2.2.2.1, h.2.2.2.2.1, h.2.2.2.2.2.1, (slE intE).keep k h.2.2.2.2.2.2.1, (slE intE).keep k h.2.2.2.2.2.2.2.1, (slE intE).keep k h.2.2.2.2.2.2.2.2⟩
  mono k h := ⟨h.1, (slE (slE chgE)).mono k h.2.1, (slE (slE intE)).mono k h.2.2.1, h.2.2.2.1, h.2.2.2.2.1, h.2.2.2.2.2.1, (slE intE).mono k h.2.2.2.2.2.2.1, (slE intE).mono k h.2.2.2.2.2.2.2.1, (slE intE).mono k h.2.2.2.2.2.2.2.2⟩

structure Msg where
  hello : Bool
  inc : Int
  seq : Int
def msgE : Enc Msg where
  n := 3
  cells x := [.bool (decide (x.hello = true)), .int .i64 x.inc, .int .i64 x.seq]
  dflt := ⟨false, 0, 0⟩
  wf D h x := True ∧ inI64 x.inc ∧ inI64 x.seq
  len _ := rfl
  one x u hu := by simp only [List.mem_cons, List.not_mem_nil, or_false] at hu; rcases hu with rfl | rfl | rfl <;> rfl
  keep k h := ⟨h.1, h.2.1, h.2.2⟩
  mono k h := ⟨h.1, h.2.1, h.2.2⟩

def brF (B : Nat) (m : Brn) : List OF := [blO B (brE.cells m) 89, daO (slE (slE chgE)) m.rounds, daO (slE (slE intE)) m.states, daO (slE intE) m.target, daO (slE intE) m.known, daO (slE intE) m.waiting]
theorem mo_br (B : Nat) (m : Brn) : AllMo (brF B m) := ⟨mo_bl, mo_da, mo_da, mo_da, mo_da, mo_da, trivial⟩
def brK (m : Brn) : Prop := inI64 m.round ∧ inI64 m.seq
def brQ (q : Option (Nat × Brn)) : List OF := match q with
  | none => []
  | some x => brF x.1 x.2
theorem mo_brQ (q : Option (Nat × Brn)) : AllMo (brQ q) := match q with
  | none => trivial
  | some x => mo_br x.1 x.2
def brQK (q : Option (Nat × Brn)) : Prop := match q with
  | none => True
  | some x => brK x.2
end Go.Proofs.Ytobggnpnochnnaa.V
set_option linter.unusedVariables false
set_option linter.unusedSimpArgs false
namespace Go.Proofs.Ytobggnpnochnnaa.V
open Go.RowKit
def mB (b : Brn) : Mach := ⟨b.rounds, b.states, b.round, b.back, b.seq, b.target, b.known, b.waiting, ⟨none, 0, []⟩⟩
def KeepB (b b1 : Brn) : Prop := b1.staged = b.staged ∧ KeepM (mB b) (mB b1)
theorem KeepB.refl (b : Brn) : KeepB b b := ⟨rfl, rfl, rfl⟩
theorem KeepB.trans {a b c : Brn} (h : KeepB a b) (k : KeepB b c) : KeepB a c := ⟨k.1.trans h.1, KeepM.trans h.2 k.2⟩
def rdB (b : Brn) : List (List Chg) := rdsM (mB b)
def stB (b : Brn) : List (List Int) := stsM (mB b)
def cB (b : Brn) : Ctl := absM (mB b)
def BrOK (b : Brn) : Prop := MachOK (mB b)
end Go.Proofs.Ytobggnpnochnnaa.V
namespace Go.Proofs.Ytobggnpnochnnaa.V
open Go.RowKit Go.Proofs.Ytobggnpnochnnaa
set_option linter.unusedVariables false
set_option linter.unusedSimpArgs false
set_option maxHeartbeats 2000000 in
set_option maxRecDepth 20000 in
theorem rStart (w : World) (F : Nat → Prop) (hF : Old F w) (b_b : Nat) (b : Brn) (M : MS [In (ow (brF b_b b))] w) (hD : ∀ k, In [In (ow (brF b_b b))] k → ¬ F k) (b_k : brK b) (b_K : (bnO (brF b_b b)).p F (In [In (ow (brF b_b b))]) w) (ok : BrOK b ∧ 0 ≤ b.round ∧ b.round < b.rounds.xs.length) :
 Calls Try.prog 109 #[pT b_b 0] w fun e w' => ∃ (ra : Option Addr) (rc : Nat) (b_1 : Brn), e = .returned (.slice ra (((startC (rdB b) (stB b) (cB b)).sent).length) rc) ∧ Row intE 3 w.heap.size F [abk ra, In (ow (brF b_b b_1))] w' ra rc ((startC (rdB b) (stB b) (cB b)).sent) ∧ brK b_1 ∧ (bnO (brF b_b b_1)).p F (In [abk ra, In (ow (brF b_b b_1))]) w' ∧ (KeepB b b_1 ∧ cB b_1 = noS (startC (rdB b) (stB b) (cB b))) ∧ Tr [In (ow (brF b_b b))] w [abk ra, In (ow (brF b_b b_1))] w' := by
 obtain ⟨⟨PO, CO⟩, hr0, hr1⟩ := ok
 have hRl := rds_len (mB b)
 have hSl := sts_len (mB b)
 have hP1 := PO.r1
 have hP2 := PO.s1
 have hPn := PO.n1
 have hsq : 0 ≤ b.seq ∧ b.seq ≤ 40 := CO.sqb hP1
 have hkn : b.known.xs.length = _ := CO.kn
 have hwt : Asc _ b.waiting.xs := CO.wt
 have hwl := hwt.len
 have hRl2 : (rdsM (mB b)).length = b.rounds.xs.length := hRl
 have hSl2 : (stsM (mB b)).length = b.states.xs.length := hSl
 have htn : b.target.xs.length ≤ 1000 := hPn
 have hwb : b.waiting.xs.length ≤ b.target.xs.length := hwl
 refine go Try.func109 rfl 99 rfl [] [bnO (brF b_b b)] hF M trivial ⟨b_K, trivial⟩ ?_
 intro a S
 refine rs S (la (av rfl)) ?_; clear S; intro a u S
 refine rs0 ?_
 refine sp S (tr (mv rfl)<|la (ov fun S=>x_nilck (S.e rfl))) ?_; clear S; intro a u S
 replace S := (show St _ _ _ _ _ _ [blO b_b [bD (b.staged = true), sV b.rounds, sV b.states, iI b.round, bD (b.back = true), iI b.seq, sV b.target, sV b.known, sV b.waiting] 89, daO (slE (slE chgE)) b.rounds, daO (slE (slE intE)) b.states, daO (slE intE) b.target, daO (slE intE) b.known, daO (slE intE) b.waiting] _ _ from S.opn (ks := []))
 replace S := S.ar (wfF (slE (slE chgE)) b.rounds) (S.da 1 rfl)
 replace S := S.ar (wfF (slE (slE intE)) b.states) (S.da 2 rfl)
 replace S := S.ar (wfF (slE intE) b.target) (S.da 3 rfl)
 replace S := S.ar (wfF (slE intE) b.known) (S.da 4 rfl)
 replace S := S.ar (wfF (slE intE) b.waiting) (S.da 5 rfl)
 replace S := S.pk [0] (os' := [blO b_b [bD (b.staged = true), sV b.rounds, sV b.states, iI b.round, bD (b.back = true), iI b.seq, sV b.target, sV b.known, sV b.waiting] 89])
 have : b.rounds.xs.length ≤ 9223372036854775807 := ((S.u 0 rfl)).1.len
 have : b.states.xs.length ≤ 9223372036854775807 := ((S.u 1 rfl)).1.len
 have : b.target.xs.length ≤ 9223372036854775807 := ((S.u 2 rfl)).1.len
 have : b.known.xs.length ≤ 9223372036854775807 := ((S.u 3 rfl)).1.len
 have : b.waiting.xs.length ≤ 9223372036854775807 := ((S.u 4 rfl)).1.len
 obtain ⟨_, _⟩ : inI64 b.round := b_k.1
 obtain ⟨_, _⟩ : inI64 b.seq := b_k.2
 refine ens S (tr (fldi 0 3 rfl uT89)<|tr (fldi (0 + 3) 2 rfl uT57)<|tr (ldk 0 sC3 rfl rfl rfl)<|tr (addi (b.seq + 1) rfl rfl (w_i64 (by omega)))<|tr (ov fun S=>x_nilck (S.e rfl))<|tr (fldi 0 3 rfl uT89)<|tr (fldi (0 + 3) 2 rfl uT57)<|la (stk 0 rfl rfl rfl)) ?_; clear S; intro a u S
 refine rs0 ?_
 refine nbr (q := 0) intE S [] (x_bsl0 uT22 iZ3) (fun _ h => by simp at h) ?_; clear S; intro a u b16 S
 refine sp S (tr (mv rfl)<|tr (ov fun S=>x_nilck (S.e rfl))<|tr (fldi 0 3 rfl uT89)<|tr (fldi (0 + 3) 3 rfl uT57)<|la (ldk 0 sC22 rfl rfl rfl)) ?_; clear S; intro a u S
 refine ap (E := intE) (ys := b.target.xs) S 1 rfl uT22 iZ3 rfl rfl ((S.u 2 rfl)).1 ((S.u 2 rfl)).2.2 (LAt.mem ((S.u 2 rfl)).1) ⟨by unfold maxLen; (try simp only [List.length_cons, List.length_nil, List.length_append, List.length_map]); omega, by (try simp only [List.length_cons, List.length_nil, List.length_append, List.length_map]); omega⟩ ?_; clear S; intro a u ad22 cap22 S
 refine ens S (la (av rfl)) ?_; clear S; intro a u S
 refine wp_seq ?_
 have hn4 : ((b.rounds.xs.getD ((b.round).toNat) (slE chgE).dflt).xs).length ≤ 9223372036854775807 := ((((S.u 0 rfl)).1.wf (b.round).toNat (by omega))).1.len
 refine dr (P := Try.prog) S 13 [] [(23, .is _), (24, .is _), (25, .is _), (26, .is _), (27, .is _), (28, .is _), (29, .is _), (30, .is _), (31, .is _), (32, .is _), (33, .is _), (34, .is _), (4, .is _)] [[], [23], [24], [25], [26], [], [28], [29], [30], [31], [27, 32], [33], [34]] [4] _ ⟨qd (mv rfl), qd (ov fun S=>x_nilck (S.e rfl)), qd (fldi 0 0 rfl uT89), qd (fldi (0 + 0) 1 rfl uT47), qd (ldk 0 sC45 rfl rfl rfl), qd (mv rfl), qd (ov fun S=>x_nilck (S.e rfl)), qd (fldi 0 3 rfl uT89), qd (fldi (0 + 3) 0 rfl uT57), qd (ldk 0 sC3 rfl rfl rfl), qd (idxi uT45 sZ122 rfl rfl (b.round).toNat (by omega) (by omega) (((S.u 0 rfl)).1.adr (i := (b.round).toNat) (by omega))), qd (ov fun S=>x_load sC122 (S.e rfl) (((S.u 0 rfl)).1.cell (b.round).toNat (by omega) 0 _ rfl)), qd (av rfl), trivial⟩ ?_
 clear S; intro a u S G hE
 have hn5 : ((b.rounds.xs.getD ((b.round).toNat) (slE chgE).dflt).xs).length ≤ 9223372036854775807 := ((((S.u 0 rfl)).1.wf (b.round).toNat (by omega))).1.len
 obtain ⟨hl6, hu6⟩ : inI64 b.round := id b_k.1
 refine ent (wp_seq ?_)
 refine rs S (la (av rfl)) ?_; clear S; intro a u S
 refine wp_block ?_
 replace S := S.pk [1, 0] (os' := [rwO intE 3 w.heap.size ad22 cap22 ([] ++ b.target.xs), blO b_b [bD (b.staged = true), sV b.rounds, sV b.states, iI b.round, bD (b.back = true), iI (b.seq + 1), sV b.target, sV b.known, sV b.waiting] 89])
 replace S := S.oda (E := slE (slE chgE)) (x := b.rounds) (S.u 0 rfl)
 replace S := S.oda (E := slE (slE intE)) (x := b.states) (S.u 1 rfl)
 replace S := S.oda (E := slE intE) (x := b.target) (S.u 2 rfl)
 replace S := S.oda (E := slE intE) (x := b.known) (S.u 3 rfl)
 replace S := S.oda (E := slE intE) (x := b.waiting) (S.u 4 rfl)
 have hk8 : brK (⟨b.staged, b.rounds, b.states, b.round, b.back, (b.seq + 1), b.target, b.known, b.waiting⟩ : Brn) := ⟨b_k.1, (show inI64 (b.seq + 1) from ⟨by omega, by omega⟩)⟩
 replace S := (show St _ _ _ _ _ _ ([rwO intE 3 w.heap.size ad22 cap22 ([] ++ b.target.xs)] ++ brF b_b (⟨b.staged, b.rounds, b.states, b.round, b.back, (b.seq + 1), b.target, b.known, b.waiting⟩ : Brn)) _ _ from S).cls
 replace S := (show St _ _ _ _ _ _ [rwO intE 3 w.heap.size ad22 cap22 ([] ++ b.target.xs), bnO (brF b_b (⟨b.staged, b.rounds, b.states, b.round, b.back, (b.seq + 1), b.target, b.known, b.waiting⟩ : Brn))] _ _ from S)
 refine lp5 (fun (j1 : Nat) (bj : Brn) (tg_a : Option Addr) (tg_c : Nat) (tg : List Int) => [(0, pT b_b 0), (2, .slice none 0 0), (3, .slice tg_a tg.length tg_c), (4, sV (b.rounds.xs.getD ((b.round).toNat) (slE chgE).dflt)), (5, iN j1)]) (fun (j1 : Nat) (bj : Brn) (tg_a : Option Addr) (tg_c : Nat) (tg : List Int) => [rwO intE 3 w.heap.size tg_a tg_c tg, bnO (brF b_b bj)]) (fun (j1 : Nat) (bj : Brn) (tg_a : Option Addr) (tg_c : Nat) (tg : List Int) => brK bj ∧ (j1 ≤ (b.rounds.xs.getD (b.round).toNat (slE chgE).dflt).xs.length ∧ KeepB b bj ∧ {cB bj with target := tg} = ((b.rounds.xs.getD (b.round).toNat (slE chgE).dflt).xs.take j1).foldl (chgC ((stB b).getD (b.round).toNat [])) {cB b with seq := b.seq + 1})) (fun (j1 : Nat) (bj : Brn) (tg_a : Option Addr) (tg_c : Nat) (tg : List Int) => (b.rounds.xs.getD (b.round).toNat (slE chgE).dflt).xs.length - j1) S 0 (⟨b.staged, b.rounds, b.states, b.round, b.back, (b.seq + 1), b.target, b.known, b.waiting⟩ : Brn) ad22 cap22 ([] ++ b.target.xs) (subM rfl) rfl ?_ ?_
 ·refine ⟨hk8, ?_⟩
  exact ⟨Nat.zero_le _, ⟨rfl, rfl, rfl⟩, rfl⟩
 clear S; intro j1 bj tg_a tg_c tg a u S hR
 have tg_len := (S.row 0 rfl).len_le; simp only [maxLen] at tg_len
 obtain ⟨hk_bj, hR⟩ := hR
 obtain ⟨hj1, hKm, hfold⟩ := hR
 have hRd : (b.rounds.xs.getD (b.round).toNat (slE chgE).dflt).xs.length ≤ 1000 ∧ ∀ x ∈ (b.rounds.xs.getD (b.round).toNat (slE chgE).dflt).xs, 0 ≤ x.dev ∧ x.dev < b.target.xs.length := by
  have h := rd_of PO (k := (b.round).toNat) (by omega)
  rw [rds_at] at h
  exact h
 have hQ : ChgK b.target.xs.length {cB b with seq := b.seq + 1} {cB bj with target := tg} := by rw [hfold]; exact foldl_chgK _ (ChgK.refl hwt) (fun x hx => hRd.2 x (List.mem_of_mem_take hx))
 have q1 : bj.round = b.round := hQ.rd
 have q2 : bj.back = b.back := hQ.bk
 have q3 : bj.seq = b.seq + 1 := hQ.sq
 have q4 : tg.length = b.target.xs.length := hQ.tg
 have q5 : Asc b.target.xs.length bj.waiting.xs := hQ.wt
 have q5l := q5.len
 have hwj : bj.waiting.xs.Pairwise (· < ·) ∧ bj.waiting.xs.length ≤ 1000 := ⟨q5.1, by omega⟩
 have hst : (b.states.xs.getD (b.round).toNat (slE intE).dflt).xs.length = b.target.xs.length := by
  have h := st_of PO (k := (b.round).toNat) (by omega)
  rw [sts_at] at h
  exact h
 have q6 : bj.rounds = b.rounds := hKm.2.1
 have q7 : bj.states = b.states := hKm.2.2
 have q7l : bj.states.xs.length = b.states.xs.length := by rw [q7]
 have q8 : (bj.states.xs.getD (bj.round).toNat (slE intE).dflt).xs.length = b.target.xs.length := by rw [q7, q1]; exact hst
 refine wp_seq ?_
 refine rs S (tr (mv rfl)<|tr (mv rfl)<|tr (leni uT122 rfl)<|la (lssi rfl rfl)) ?_; clear S; intro a u S
 refine cd S rfl ?_ ?_
 ·intro hc0
  have hx := hRd.2 _ (getD_mem (d := chgE.dflt) (i := j1) (by omega))
  refine wp_skip (then_n (wp_seq (wp_block ?_)))
  obtain ⟨hl11, hu11⟩ : inI64 ((((b.rounds.xs.getD ((b.round).toNat) (slE chgE).dflt).xs).getD j1 chgE.dflt).dev) := id ((((((S.u 0 rfl)).1.wf (b.round).toNat (by omega))).1.wf j1 (by omega)).1)
  refine rs S (tr (mv rfl)<|tr (mv rfl)<|tr (idxi uT122 sZ124 rfl rfl j1 rfl (by omega) (((((S.u 0 rfl)).1.wf (b.round).toNat (by omega))).1.adr (i := j1) (by omega)))<|tr (fldi (off ((b.rounds.xs.getD ((b.round).toNat) (slE chgE).dflt).a) + j1 * 2) 0 rfl uT124)<|tr (ov fun S=>x_load sC3 (S.e rfl) (((((S.u 0 rfl)).1.wf (b.round).toNat (by omega))).1.cell j1 (by omega) 0 _ rfl))<|la (av rfl)) ?_; clear S; intro a u S
  refine rs0 ?_
  obtain ⟨hl13, hu13⟩ : inI64 ((((b.rounds.xs.getD ((b.round).toNat) (slE chgE).dflt).xs).getD j1 chgE.dflt).ver) := id ((((((S.u 0 rfl)).1.wf (b.round).toNat (by omega))).1.wf j1 (by omega)).2)
  refine sp S (tr (mv rfl)<|tr (mv rfl)<|tr (mv rfl)<|tr (mv rfl)<|tr (idxi uT122 sZ124 rfl rfl j1 rfl (by omega) (((((S.u 0 rfl)).1.wf (b.round).toNat (by omega))).1.adr (i := j1) (by omega)))<|tr (fldi (off ((b.rounds.xs.getD ((b.round).toNat) (slE chgE).dflt).a) + j1 * 2) 1 rfl uT124)<|tr (ov fun S=>x_load sC3 (S.e rfl) (((((S.u 0 rfl)).1.wf (b.round).toNat (by omega))).1.cell j1 (by omega) 1 _ rfl))<|la (ov fun S=>x_idx uT22 sZ3 (S.e rfl) (S.e rfl) ((((b.rounds.xs.getD ((b.round).toNat) (slE chgE).dflt).xs).getD j1 chgE.dflt).dev).toNat (by omega) (by omega) (row_off (S.row 0 rfl) (m := ((((b.rounds.xs.getD ((b.round).toNat) (slE chgE).dflt).xs).getD j1 chgE.dflt).dev).toNat) (by omega)))) ?_; clear S; intro a u S
  refine sp S (la (str (E := intE) 0 (by kernel_rfl) rfl rfl rfl ((((b.rounds.xs.getD ((b.round).toNat) (slE chgE).dflt).xs).getD j1 chgE.dflt).dev).toNat 0 (by omega) (by first | decide | exact Nat.one_pos | exact Nat.succ_pos _) ((((b.rounds.xs.getD ((b.round).toNat) (slE chgE).dflt).xs).getD j1 chgE.dflt).ver) (fun S=>(((((S.u 0 rfl)).1.wf (b.round).toNat (by omega))).1.wf j1 (by omega)).2) rfl (by first | rfl | (show _ = _ * 1 + 0; omega) | (simp [intE]; omega) | simp [intE]) rfl)) ?_; clear S; intro a u S
  have hls14 : (tg.set ((((b.rounds.xs.getD ((b.round).toNat) (slE chgE).dflt).xs).getD j1 chgE.dflt).dev).toNat ((((b.rounds.xs.getD ((b.round).toNat) (slE chgE).dflt).xs).getD j1 chgE.dflt).ver)).length = tg.length := by simp
  refine ent (wp_seq (rs0 ?_))
  refine sp S (tr (mv rfl)<|la (ov fun S=>x_nilck (S.e rfl))) ?_; clear S; intro a u S
  replace S := (show St _ _ _ _ _ _ [rwO intE 3 w.heap.size tg_a tg_c (tg.set ((((b.rounds.xs.getD ((b.round).toNat) (slE chgE).dflt).xs).getD j1 chgE.dflt).dev).toNat ((((b.rounds.xs.getD ((b.round).toNat) (slE chgE).dflt).xs).getD j1 chgE.dflt).ver)), blO b_b [bD (bj.staged = true), sV bj.rounds, sV bj.states, iI bj.round, bD (bj.back = true), iI bj.seq, sV bj.target, sV bj.known, sV bj.waiting] 89, daO (slE (slE chgE)) bj.rounds, daO (slE (slE intE)) bj.states, daO (slE intE) bj.target, daO (slE intE) bj.known, daO (slE intE) bj.waiting] _ _ from S.opn (ks := [rwO intE 3 w.heap.size tg_a tg_c (tg.set ((((b.rounds.xs.getD ((b.round).toNat) (slE chgE).dflt).xs).getD j1 chgE.dflt).dev).toNat ((((b.rounds.xs.getD ((b.round).toNat) (slE chgE).dflt).xs).getD j1 chgE.dflt).ver))]))
  replace S := S.ar (wfF (slE (slE chgE)) bj.rounds) (S.da 2 rfl)
  replace S := S.ar (wfF (slE (slE intE)) bj.states) (S.da 3 rfl)
  replace S := S.ar (wfF (slE intE) bj.target) (S.da 4 rfl)
  replace S := S.ar (wfF (slE intE) bj.known) (S.da 5 rfl)
  replace S := S.ar (wfF (slE intE) bj.waiting) (S.da 6 rfl)
  replace S := S.pk [0, 1] (os' := [rwO intE 3 w.heap.size tg_a tg_c (tg.set ((((b.rounds.xs.getD ((b.round).toNat) (slE chgE).dflt).xs).getD j1 chgE.dflt).dev).toNat ((((b.rounds.xs.getD ((b.round).toNat) (slE chgE).dflt).xs).getD j1 chgE.dflt).ver)), blO b_b [bD (bj.staged = true), sV bj.rounds, sV bj.states, iI bj.round, bD (bj.back = true), iI bj.seq, sV bj.target, sV bj.known, sV bj.waiting] 89])
  have : bj.rounds.xs.length ≤ 9223372036854775807 := ((S.u 5 rfl)).1.len
  have : bj.states.xs.length ≤ 9223372036854775807 := ((S.u 6 rfl)).1.len
  have : bj.target.xs.length ≤ 9223372036854775807 := ((S.u 7 rfl)).1.len
  have : bj.known.xs.length ≤ 9223372036854775807 := ((S.u 8 rfl)).1.len
  have : bj.waiting.xs.length ≤ 9223372036854775807 := ((S.u 9 rfl)).1.len
  obtain ⟨_, _⟩ : inI64 bj.round := hk_bj.1
  obtain ⟨_, _⟩ : inI64 bj.seq := hk_bj.2
  refine ens S (tr (fldi 0 3 rfl uT89)<|tr (fldi (0 + 3) 1 rfl uT57)<|la (ldk 1 sC4 rfl rfl rfl)) ?_; clear S; intro a u S
  refine cd S rfl ?_ ?_
  ·intro hc1
   have hn16 : ((bj.states.xs.getD ((bj.round).toNat) (slE intE).dflt).xs).length ≤ 9223372036854775807 := ((((S.u 6 rfl)).1.wf (bj.round).toNat (by omega))).1.len
   obtain ⟨hl17, hu17⟩ : inI64 (((bj.states.xs.getD ((bj.round).toNat) (slE intE).dflt).xs).getD (((((b.rounds.xs.getD ((b.round).toNat) (slE chgE).dflt).xs).getD j1 chgE.dflt).dev).toNat) intE.dflt) := id (((((S.u 6 rfl)).1.wf (bj.round).toNat (by omega))).1.wf ((((b.rounds.xs.getD ((b.round).toNat) (slE chgE).dflt).xs).getD j1 chgE.dflt).dev).toNat (by omega))
   refine dr (P := Try.prog) S 17 [] [(59, .is _), (60, .is _), (61, .is _), (62, .is _), (63, .is _), (64, .is _), (65, .is _), (66, .is _), (67, .is _), (68, .is _), (69, .is _), (70, .is _), (71, .is _), (72, .is _), (73, .is _), (74, .is _), (75, .is _)] [[], [], [], [61], [62], [63], [], [65], [66], [67], [68], [64, 69], [70], [], [71, 72], [73], [59, 60]] [74, 75] _ ⟨qd (mv rfl), qd (mv rfl), qd (mv rfl), qd (ov fun S=>x_nilck (S.e rfl)), qd (fldi 0 2 rfl uT89), qd (ldk 1 sC66 rfl rfl rfl), qd (mv rfl), qd (ov fun S=>x_nilck (S.e rfl)), qd (fldi 0 3 rfl uT89), qd (fldi (0 + 3) 0 rfl uT57), qd (ldk 1 sC3 rfl rfl rfl), qd (idxi uT66 sZ22 rfl rfl (bj.round).toNat (by omega) (by omega) (((S.u 6 rfl)).1.adr (i := (bj.round).toNat) (by omega))), qd (ov fun S=>x_load sC22 (S.e rfl) (((S.u 6 rfl)).1.cell (bj.round).toNat (by omega) 0 _ rfl)), qd (mv rfl), qd (idxi uT22 sZ3 rfl rfl ((((b.rounds.xs.getD ((b.round).toNat) (slE chgE).dflt).xs).getD j1 chgE.dflt).dev).toNat (by omega) (by omega) (((((S.u 6 rfl)).1.wf (bj.round).toNat (by omega))).1.adr (i := ((((b.rounds.xs.getD ((b.round).toNat) (slE chgE).dflt).xs).getD j1 chgE.dflt).dev).toNat) (by omega))), qd (ov fun S=>x_load sC3 (S.e rfl) (((((S.u 6 rfl)).1.wf (bj.round).toNat (by omega))).1.cell ((((b.rounds.xs.getD ((b.round).toNat) (slE chgE).dflt).xs).getD j1 chgE.dflt).dev).toNat (by omega) 0 _ rfl)), qd (ov fun S=>x_idx uT22 sZ3 (S.e rfl) (S.e rfl) ((((b.rounds.xs.getD ((b.round).toNat) (slE chgE).dflt).xs).getD j1 chgE.dflt).dev).toNat (by omega) (by omega) (row_off (S.row 0 rfl) (m := ((((b.rounds.xs.getD ((b.round).toNat) (slE chgE).dflt).xs).getD j1 chgE.dflt).dev).toNat) (by omega))), trivial⟩ ?_
   clear S; intro a u S G hE
   obtain ⟨hl18, hu18⟩ : inI64 (((bj.states.xs.getD ((bj.round).toNat) (slE intE).dflt).xs).getD (((((b.rounds.xs.getD ((b.round).toNat) (slE chgE).dflt).xs).getD j1 chgE.dflt).dev).toNat) intE.dflt) := id (((((S.u 6 rfl)).1.wf (bj.round).toNat (by omega))).1.wf ((((b.rounds.xs.getD ((b.round).toNat) (slE chgE).dflt).xs).getD j1 chgE.dflt).dev).toNat (by omega))
   obtain ⟨hl19, hu19⟩ : inI64 bj.round := id hk_bj.1
   refine sp S (la (str (E := intE) 0 (by kernel_rfl) rfl rfl rfl ((((b.rounds.xs.getD ((b.round).toNat) (slE chgE).dflt).xs).getD j1 chgE.dflt).dev).toNat 0 (by omega) (by first | decide | exact Nat.one_pos | exact Nat.succ_pos _) (((bj.states.xs.getD ((bj.round).toNat) (slE intE).dflt).xs).getD (((((b.rounds.xs.getD ((b.round).toNat) (slE chgE).dflt).xs).getD j1 chgE.dflt).dev).toNat) intE.dflt) (fun S=>(((((S.u 6 rfl)).1.wf (bj.round).toNat (by omega))).1.wf ((((b.rounds.xs.getD ((b.round).toNat) (slE chgE).dflt).xs).getD j1 chgE.dflt).dev).toNat (by omega))) rfl (by first | rfl | (show _ = _ * 1 + 0; omega) | (simp [intE]; omega) | simp [intE]) rfl)) ?_; clear S; intro a u S
   have hls20 : ((tg.set ((((b.rounds.xs.getD ((b.round).toNat) (slE chgE).dflt).xs).getD j1 chgE.dflt).dev).toNat ((((b.rounds.xs.getD ((b.round).toNat) (slE chgE).dflt).xs).getD j1 chgE.dflt).ver)).set ((((b.rounds.xs.getD ((b.round).toNat) (slE chgE).dflt).xs).getD j1 chgE.dflt).dev).toNat (((bj.states.xs.getD ((bj.round).toNat) (slE intE).dflt).xs).getD (((((b.rounds.xs.getD ((b.round).toNat) (slE chgE).dflt).xs).getD j1 chgE.dflt).dev).toNat) intE.dflt)).length = tg.length := by simp
   refine ent (r0 ?_)
   refine sp S (tr (mv rfl)<|tr (mv rfl)<|tr (ov fun S=>x_nilck (S.e rfl))<|tr (fldi 0 3 rfl uT89)<|tr (fldi (0 + 3) 5 rfl uT57)<|tr (ldk 1 sC22 rfl rfl rfl)<|la (mv rfl)) ?_; clear S; intro a u S
   refine cl S (rPut0 _ _ S.x (.nil _) bj.waiting (dn0 (S.u 9 rfl)) ((((b.rounds.xs.getD ((b.round).toNat) (slE chgE).dflt).xs).getD j1 chgE.dflt).dev) (((((S.u 0 rfl)).1.wf (b.round).toNat (by omega))).1.wf j1 (by omega)).1 (by assumption)) cB119 ?_
   rintro e u ⟨ra_t83, rc_t83, rfl, R_t83, T0⟩; refine ⟨_, rfl, fun a s => ?_⟩
   replace S := (S.k0 s T0).ar (wfF (slE intE) (Sl.mk ra_t83 rc_t83 (insW bj.waiting.xs (((b.rounds.xs.getD ((b.round).toNat) (slE chgE).dflt).xs).getD j1 chgE.dflt).dev))) (Enc.up _ R_t83); clear s T0 R_t83
   have hn22 : (insW bj.waiting.xs (((b.rounds.xs.getD ((b.round).toNat) (slE chgE).dflt).xs).getD j1 chgE.dflt).dev).length ≤ 9223372036854775807 := ((S.u 10 rfl)).1.len
   refine en S (tr (ov fun S=>x_nilck (S.e rfl))<|tr (fldi 0 3 rfl uT89)<|tr (fldi (0 + 3) 5 rfl uT57)<|la (stk 1 rfl rfl rfl)) ?_; clear S; intro a u S
   refine blk_n (then_n ?_)
   refine rg S (tr (mv rfl)<|tr (addi ((j1 + 1 : Nat) : Int) rfl rfl (w_i64 (by omega)))<|la (av rfl)) ?_; clear S; intro a u S
   replace S := S.oda (E := slE (slE chgE)) (x := bj.rounds) (S.u 5 rfl)
   replace S := S.oda (E := slE (slE intE)) (x := bj.states) (S.u 6 rfl)
   replace S := S.oda (E := slE intE) (x := bj.target) (S.u 7 rfl)
   replace S := S.oda (E := slE intE) (x := bj.known) (S.u 8 rfl)
   replace S := S.oda (E := slE intE) (x := (Sl.mk ra_t83 rc_t83 (insW bj.waiting.xs (((b.rounds.xs.getD ((b.round).toNat) (slE chgE).dflt).xs).getD j1 chgE.dflt).dev))) (S.u 10 rfl)
   have hk24 : brK (⟨bj.staged, bj.rounds, bj.states, bj.round, bj.back, bj.seq, bj.target, bj.known, (Sl.mk ra_t83 rc_t83 (insW bj.waiting.xs (((b.rounds.xs.getD ((b.round).toNat) (slE chgE).dflt).xs).getD j1 chgE.dflt).dev))⟩ : Brn) := ⟨hk_bj.1, hk_bj.2⟩
   replace S := (show St _ _ _ _ _ _ ([rwO intE 3 w.heap.size tg_a tg_c ((tg.set ((((b.rounds.xs.getD ((b.round).toNat) (slE chgE).dflt).xs).getD j1 chgE.dflt).dev).toNat ((((b.rounds.xs.getD ((b.round).toNat) (slE chgE).dflt).xs).getD j1 chgE.dflt).ver)).set ((((b.rounds.xs.getD ((b.round).toNat) (slE chgE).dflt).xs).getD j1 chgE.dflt).dev).toNat (((bj.states.xs.getD ((bj.round).toNat) (slE intE).dflt).xs).getD (((((b.rounds.xs.getD ((b.round).toNat) (slE chgE).dflt).xs).getD j1 chgE.dflt).dev).toNat) intE.dflt))] ++ brF b_b (⟨bj.staged, bj.rounds, bj.states, bj.round, bj.back, bj.seq, bj.target, bj.known, (Sl.mk ra_t83 rc_t83 (insW bj.waiting.xs (((b.rounds.xs.getD ((b.round).toNat) (slE chgE).dflt).xs).getD j1 chgE.dflt).dev))⟩ : Brn)) _ _ from S).cls
   replace S := (show St _ _ _ _ _ _ [rwO intE 3 w.heap.size tg_a tg_c ((tg.set ((((b.rounds.xs.getD ((b.round).toNat) (slE chgE).dflt).xs).getD j1 chgE.dflt).dev).toNat ((((b.rounds.xs.getD ((b.round).toNat) (slE chgE).dflt).xs).getD j1 chgE.dflt).ver)).set ((((b.rounds.xs.getD ((b.round).toNat) (slE chgE).dflt).xs).getD j1 chgE.dflt).dev).toNat (((bj.states.xs.getD ((bj.round).toNat) (slE intE).dflt).xs).getD (((((b.rounds.xs.getD ((b.round).toNat) (slE chgE).dflt).xs).getD j1 chgE.dflt).dev).toNat) intE.dflt)), bnO (brF b_b (⟨bj.staged, bj.rounds, bj.states, bj.round, bj.back, bj.seq, bj.target, bj.known, (Sl.mk ra_t83 rc_t83 (insW bj.waiting.xs (((b.rounds.xs.getD ((b.round).toNat) (slE chgE).dflt).xs).getD j1 chgE.dflt).dev))⟩ : Brn))] _ _ from S)
   refine then_n ?_
   refine ⟨(j1 + 1), (⟨bj.staged, bj.rounds, bj.states, bj.round, bj.back, bj.seq, bj.target, bj.known, (Sl.mk ra_t83 rc_t83 (insW bj.waiting.xs (((b.rounds.xs.getD ((b.round).toNat) (slE chgE).dflt).xs).getD j1 chgE.dflt).dev))⟩ : Brn), tg_a, tg_c, ((tg.set ((((b.rounds.xs.getD ((b.round).toNat) (slE chgE).dflt).xs).getD j1 chgE.dflt).dev).toNat ((((b.rounds.xs.getD ((b.round).toNat) (slE chgE).dflt).xs).getD j1 chgE.dflt).ver)).set ((((b.rounds.xs.getD ((b.round).toNat) (slE chgE).dflt).xs).getD j1 chgE.dflt).dev).toNat (((bj.states.xs.getD ((bj.round).toNat) (slE intE).dflt).xs).getD (((((b.rounds.xs.getD ((b.round).toNat) (slE chgE).dflt).xs).getD j1 chgE.dflt).dev).toNat) intE.dflt)), S.re ⟨rfl, rfl, (by first | rfl | (simp only [List.length_set]; rfl)), rfl, rfl, trivial⟩ rfl rfl, ?_, ?_⟩
   ·refine ⟨hk24, ?_⟩
    refine ⟨by omega, ⟨hKm.1, hKm.2⟩, ?_⟩
    rw [foldl_take _ _ _ chgE.dflt (by omega), ← hfold]
    show _ = chgC ((stsM (mB b)).getD (b.round).toNat []) _ _
    rw [sts_at]
    unfold chgC cB absM mB
    dsimp only
    first
    | (rw [if_pos hc1]; simp only [q7, q1, List.set_set]; done)
    | (rw [if_pos hc1]; simp only [q7, q1, List.set_set]; rfl)
    | (rw [if_neg hc2]; done)
    | (rw [if_neg hc2]; rfl)
   omega
  intro hc2
  refine wp_skip (then_n (r0 ?_))
  refine sp S (tr (mv rfl)<|tr (mv rfl)<|tr (ov fun S=>x_nilck (S.e rfl))<|tr (fldi 0 3 rfl uT89)<|tr (fldi (0 + 3) 5 rfl uT57)<|tr (ldk 1 sC22 rfl rfl rfl)<|la (mv rfl)) ?_; clear S; intro a u S
  refine cl S (rPut0 _ _ S.x (.nil _) bj.waiting (dn0 (S.u 9 rfl)) ((((b.rounds.xs.getD ((b.round).toNat) (slE chgE).dflt).xs).getD j1 chgE.dflt).dev) (((((S.u 0 rfl)).1.wf (b.round).toNat (by omega))).1.wf j1 (by omega)).1 (by assumption)) cB119 ?_
  rintro e u ⟨ra_t83, rc_t83, rfl, R_t83, T0⟩; refine ⟨_, rfl, fun a s => ?_⟩
  replace S := (S.k0 s T0).ar (wfF (slE intE) (Sl.mk ra_t83 rc_t83 (insW bj.waiting.xs (((b.rounds.xs.getD ((b.round).toNat) (slE chgE).dflt).xs).getD j1 chgE.dflt).dev))) (Enc.up _ R_t83); clear s T0 R_t83
  have hn26 : (insW bj.waiting.xs (((b.rounds.xs.getD ((b.round).toNat) (slE chgE).dflt).xs).getD j1 chgE.dflt).dev).length ≤ 9223372036854775807 := ((S.u 10 rfl)).1.len
  refine en S (tr (ov fun S=>x_nilck (S.e rfl))<|tr (fldi 0 3 rfl uT89)<|tr (fldi (0 + 3) 5 rfl uT57)<|la (stk 1 rfl rfl rfl)) ?_; clear S; intro a u S
  refine blk_n (then_n ?_)
  refine rg S (tr (mv rfl)<|tr (addi ((j1 + 1 : Nat) : Int) rfl rfl (w_i64 (by omega)))<|la (av rfl)) ?_; clear S; intro a u S
  replace S := S.oda (E := slE (slE chgE)) (x := bj.rounds) (S.u 5 rfl)
  replace S := S.oda (E := slE (slE intE)) (x := bj.states) (S.u 6 rfl)
  replace S := S.oda (E := slE intE) (x := bj.target) (S.u 7 rfl)
  replace S := S.oda (E := slE intE) (x := bj.known) (S.u 8 rfl)
  replace S := S.oda (E := slE intE) (x := (Sl.mk ra_t83 rc_t83 (insW bj.waiting.xs (((b.rounds.xs.getD ((b.round).toNat) (slE chgE).dflt).xs).getD j1 chgE.dflt).dev))) (S.u 10 rfl)
  have hk28 : brK (⟨bj.staged, bj.rounds, bj.states, bj.round, bj.back, bj.seq, bj.target, bj.known, (Sl.mk ra_t83 rc_t83 (insW bj.waiting.xs (((b.rounds.xs.getD ((b.round).toNat) (slE chgE).dflt).xs).getD j1 chgE.dflt).dev))⟩ : Brn) := ⟨hk_bj.1, hk_bj.2⟩
  replace S := (show St _ _ _ _ _ _ ([rwO intE 3 w.heap.size tg_a tg_c (tg.set ((((b.rounds.xs.getD ((b.round).toNat) (slE chgE).dflt).xs).getD j1 chgE.dflt).dev).toNat ((((b.rounds.xs.getD ((b.round).toNat) (slE chgE).dflt).xs).getD j1 chgE.dflt).ver))] ++ brF b_b (⟨bj.staged, bj.rounds, bj.states, bj.round, bj.back, bj.seq, bj.target, bj.known, (Sl.mk ra_t83 rc_t83 (insW bj.waiting.xs (((b.rounds.xs.getD ((b.round).toNat) (slE chgE).dflt).xs).getD j1 chgE.dflt).dev))⟩ : Brn)) _ _ from S).cls
  replace S := (show St _ _ _ _ _ _ [rwO intE 3 w.heap.size tg_a tg_c (tg.set ((((b.rounds.xs.getD ((b.round).toNat) (slE chgE).dflt).xs).getD j1 chgE.dflt).dev).toNat ((((b.rounds.xs.getD ((b.round).toNat) (slE chgE).dflt).xs).getD j1 chgE.dflt).ver)), bnO (brF b_b (⟨bj.staged, bj.rounds, bj.states, bj.round, bj.back, bj.seq, bj.target, bj.known, (Sl.mk ra_t83 rc_t83 (insW bj.waiting.xs (((b.rounds.xs.getD ((b.round).toNat) (slE chgE).dflt).xs).getD j1 chgE.dflt).dev))⟩ : Brn))] _ _ from S)
  refine then_n ?_
  refine ⟨(j1 + 1), (⟨bj.staged, bj.rounds, bj.states, bj.round, bj.back, bj.seq, bj.target, bj.known, (Sl.mk ra_t83 rc_t83 (insW bj.waiting.xs (((b.rounds.xs.getD ((b.round).toNat) (slE chgE).dflt).xs).getD j1 chgE.dflt).dev))⟩ : Brn), tg_a, tg_c, (tg.set ((((b.rounds.xs.getD ((b.round).toNat) (slE chgE).dflt).xs).getD j1 chgE.dflt).dev).toNat ((((b.rounds.xs.getD ((b.round).toNat) (slE chgE).dflt).xs).getD j1 chgE.dflt).ver)), S.re ⟨rfl, rfl, (by first | rfl | (simp only [List.length_set]; rfl)), rfl, rfl, trivial⟩ rfl rfl, ?_, ?_⟩
  ·refine ⟨hk28, ?_⟩
   refine ⟨by omega, ⟨hKm.1, hKm.2⟩, ?_⟩
   rw [foldl_take _ _ _ chgE.dflt (by omega), ← hfold]
   show _ = chgC ((stsM (mB b)).getD (b.round).toNat []) _ _
   rw [sts_at]
   unfold chgC cB absM mB
   dsimp only
   first
   | (rw [if_pos hc1]; simp only [q7, q1, List.set_set]; done)
   | (rw [if_pos hc1]; simp only [q7, q1, List.set_set]; rfl)
   | (rw [if_neg hc2]; done)
   | (rw [if_neg hc2]; rfl)
  omega
 intro hc3
 have he : startC (rdB b) (stB b) (cB b) = {({cB bj with target := tg} : Ctl) with sent := [] ++ bj.waiting.xs} := by
  have e2 := hfold
  rw [show j1 = (b.rounds.xs.getD (b.round).toNat (slE chgE).dflt).xs.length from by omega, List.take_length] at e2
  unfold startC
  rw [if_neg (show ¬ ((cB b).round < 0 ∨ ((rdB b).length : Int) ≤ (cB b).round) from fun q => by have q2 : b.round < 0 ∨ ((rdsM (mB b)).length : Int) ≤ b.round := q; omega)]
  show (let c1 := ((rdsM (mB b)).getD (b.round).toNat []).foldl (chgC ((stB b).getD (b.round).toNat [])) {cB b with seq := b.seq + 1}; ({c1 with sent := c1.sent ++ c1.waiting} : Ctl)) = _
  rw [rds_at]
  show (let c1 := (b.rounds.xs.getD (b.round).toNat (slE chgE).dflt).xs.foldl (chgC ((stB b).getD (b.round).toNat [])) {cB b with seq := b.seq + 1}; ({c1 with sent := c1.sent ++ c1.waiting} : Ctl)) = _
  rw [← e2]
  rfl
 refine wp_exit (then_e (then_e (blk_e (then_n (rs0 ?_)))))
 refine sp S (tr (mv rfl)<|tr (mv rfl)<|la (ov fun S=>x_nilck (S.e rfl))) ?_; clear S; intro a u S
 replace S := (show St _ _ _ _ _ _ [rwO intE 3 w.heap.size tg_a tg_c tg, blO b_b [bD (bj.staged = true), sV bj.rounds, sV bj.states, iI bj.round, bD (bj.back = true), iI bj.seq, sV bj.target, sV bj.known, sV bj.waiting] 89, daO (slE (slE chgE)) bj.rounds, daO (slE (slE intE)) bj.states, daO (slE intE) bj.target, daO (slE intE) bj.known, daO (slE intE) bj.waiting] _ _ from S.opn (ks := [rwO intE 3 w.heap.size tg_a tg_c tg]))
 replace S := S.ar (wfF (slE (slE chgE)) bj.rounds) (S.da 2 rfl)
 replace S := S.ar (wfF (slE (slE intE)) bj.states) (S.da 3 rfl)
 replace S := S.ar (wfF (slE intE) bj.target) (S.da 4 rfl)
 replace S := S.ar (wfF (slE intE) bj.known) (S.da 5 rfl)
 replace S := S.ar (wfF (slE intE) bj.waiting) (S.da 6 rfl)
 replace S := S.pk [0, 1] (os' := [rwO intE 3 w.heap.size tg_a tg_c tg, blO b_b [bD (bj.staged = true), sV bj.rounds, sV bj.states, iI bj.round, bD (bj.back = true), iI bj.seq, sV bj.target, sV bj.known, sV bj.waiting] 89])
 have : bj.rounds.xs.length ≤ 9223372036854775807 := ((S.u 5 rfl)).1.len
 have : bj.states.xs.length ≤ 9223372036854775807 := ((S.u 6 rfl)).1.len
 have : bj.target.xs.length ≤ 9223372036854775807 := ((S.u 7 rfl)).1.len
 have : bj.known.xs.length ≤ 9223372036854775807 := ((S.u 8 rfl)).1.len
 have : bj.waiting.xs.length ≤ 9223372036854775807 := ((S.u 9 rfl)).1.len
 obtain ⟨_, _⟩ : inI64 bj.round := hk_bj.1
 obtain ⟨_, _⟩ : inI64 bj.seq := hk_bj.2
 refine ens S (tr (fldi 0 3 rfl uT89)<|tr (fldi (0 + 3) 3 rfl uT57)<|la (stk 1 rfl rfl rfl)) ?_; clear S; intro a u S
 refine rs0 ?_
 refine nbr (q := 0) intE S [] (x_bsl0 uT22 iZ3) (fun _ h => by simp at h) ?_; clear S; intro a u b92 S
 refine sp S (tr (mv rfl)<|tr (ov fun S=>x_nilck (S.e rfl))<|tr (fldi 0 3 rfl uT89)<|tr (fldi (0 + 3) 5 rfl uT57)<|la (ldk 1 sC22 rfl rfl rfl)) ?_; clear S; intro a u S
 refine ap (E := intE) (ys := bj.waiting.xs) S 2 rfl uT22 iZ3 rfl rfl ((S.u 9 rfl)).1 ((S.u 9 rfl)).2.2 (LAt.mem ((S.u 9 rfl)).1) ⟨by unfold maxLen; (try simp only [List.length_cons, List.length_nil, List.length_append, List.length_map]); omega, by (try simp only [List.length_cons, List.length_nil, List.length_append, List.length_map]); omega⟩ ?_; clear S; intro a u ad98 cap98 S
 refine ens S (la (av rfl)) ?_; clear S; intro a u S
 refine wp_ret ?_
 replace S := S.fz 0 rfl
 replace S := S.pk [2, 1] (os' := [rwO intE 3 w.heap.size ad98 cap98 ([] ++ bj.waiting.xs), blO b_b [bD (bj.staged = true), sV bj.rounds, sV bj.states, iI bj.round, bD (bj.back = true), iI bj.seq, .slice tg_a tg.length tg_c, sV bj.known, sV bj.waiting] 89])
 replace S := S.oda (E := slE (slE chgE)) (x := bj.rounds) (S.u 5 rfl)
 replace S := S.oda (E := slE (slE intE)) (x := bj.states) (S.u 6 rfl)
 replace S := S.oda (E := slE intE) (x := (Sl.mk tg_a tg_c tg)) (S.u 10 rfl)
 replace S := S.oda (E := slE intE) (x := bj.known) (S.u 8 rfl)
 replace S := S.oda (E := slE intE) (x := bj.waiting) (S.u 9 rfl)
 have hk31 : brK (⟨bj.staged, bj.rounds, bj.states, bj.round, bj.back, bj.seq, (Sl.mk tg_a tg_c tg), bj.known, bj.waiting⟩ : Brn) := ⟨hk_bj.1, hk_bj.2⟩
 replace S := (show St _ _ _ _ _ _ ([rwO intE 3 w.heap.size ad98 cap98 ([] ++ bj.waiting.xs)] ++ brF b_b (⟨bj.staged, bj.rounds, bj.states, bj.round, bj.back, bj.seq, (Sl.mk tg_a tg_c tg), bj.known, bj.waiting⟩ : Brn)) _ _ from S).cls
 replace S := (show St _ _ _ _ _ _ [rwO intE 3 w.heap.size ad98 cap98 ([] ++ bj.waiting.xs), bnO (brF b_b (⟨bj.staged, bj.rounds, bj.states, bj.round, bj.back, bj.seq, (Sl.mk tg_a tg_c tg), bj.known, bj.waiting⟩ : Brn))] _ _ from S)
 refine ret1 rfl S.s rfl ?_
 have hx32 : (startC (rdB b) (stB b) (cB b)).sent = ([] ++ bj.waiting.xs) := by
  exact congrArg Ctl.sent he
 rw [hx32]
 refine ⟨ad98, cap98, (⟨bj.staged, bj.rounds, bj.states, bj.round, bj.back, bj.seq, (Sl.mk tg_a tg_c tg), bj.known, bj.waiting⟩ : Brn), rfl, (S.row 0 rfl), hk31, (S.m.o _ (nth_mem (i := 1) rfl)), ?_, S.m.c⟩
 exact ⟨⟨hKm.1, hKm.2⟩, by rw [he]; rfl⟩
end Go.Proofs.Ytobggnpnochnnaa.V
set_option linter.unusedVariables false
set_option linter.unusedSimpArgs false
namespace Go.Proofs.Ytobggnpnochnnaa.V
open Go.RowKit
theorem keepB_rd {b b1 : Brn} (h : KeepB b b1) : rdB b1 = rdB b := keep_rds h.2
theorem keepB_st {b b1 : Brn} (h : KeepB b b1) : stB b1 = stB b := keep_sts h.2
theorem foldl_o {st : List Int} : ∀ (l : List Chg) (c : Ctl), l.foldl (chgC st) c = {l.foldl (chgC st) (noS c) with sent := c.sent}
  | [], _ => rfl
  | x :: t, c => by rw [List.foldl_cons, foldl_o t, List.foldl_cons]; rfl
theorem startC_out {R : List (List Chg)} {S : List (List Int)} {c : Ctl} (h : c.round < 0 ∨ (R.length : Int) ≤ c.round) : startC R S c = c := if_pos h
theorem startO {R : List (List Chg)} {S : List (List Int)} (c : Ctl) (o : List Int) : startC R S {c with sent := o} = {startC R S (noS c) with sent := o ++ (startC R S (noS c)).sent} := by
  by_cases h : c.round < 0 ∨ (R.length : Int) ≤ c.round
  · rw [startC_out (c := {c with sent := o}) h, startC_out (c := noS c) h]
    show ({c with sent := o} : Ctl) = {c with sent := o ++ []}
    rw [List.append_nil]
  · unfold startC
    rw [if_neg (show ¬ (({c with sent := o} : Ctl).round < 0 ∨ (R.length : Int) ≤ ({c with sent := o} : Ctl).round) from h), if_neg (show ¬ ((noS c).round < 0 ∨ (R.length : Int) ≤ (noS c).round) from h)]
    have e1 := foldl_o (st := S.getD c.round.toNat []) (R.getD c.round.toNat []) {({c with sent := o} : Ctl) with seq := c.seq + 1}
    have e2 := foldl_o (st := S.getD c.round.toNat []) (R.getD c.round.toNat []) {(noS c) with seq := c.seq + 1}
    have hs : ((R.getD c.round.toNat []).foldl (chgC (S.getD c.round.toNat [])) {(noS c) with seq := c.seq + 1}).sent = [] := by rw [e2]; rfl
    obtain ⟨X, hX⟩ : ∃ X, (R.getD c.round.toNat []).foldl (chgC (S.getD c.round.toNat [])) {(noS c) with seq := c.seq + 1} = X := ⟨_, rfl⟩
    rw [hX] at hs
    have e3 : (R.getD c.round.toNat []).foldl (chgC (S.getD c.round.toNat [])) {({c with sent := o} : Ctl) with seq := c.seq + 1} = {X with sent := o} := e1.trans (by rw [← hX]; rfl)
    show (let c1 := (R.getD c.round.toNat []).foldl (chgC (S.getD c.round.toNat [])) {({c with sent := o} : Ctl) with seq := c.seq + 1}; ({c1 with sent := c1.sent ++ c1.waiting} : Ctl)) = (let c1 := (R.getD c.round.toNat []).foldl (chgC (S.getD c.round.toNat [])) {(noS c) with seq := c.seq + 1}; ({({c1 with sent := c1.sent ++ c1.waiting} : Ctl) with sent := o ++ (c1.sent ++ c1.waiting)} : Ctl))
    rw [e3, hX]
    show ({X with sent := o ++ X.waiting} : Ctl) = {X with sent := o ++ (X.sent ++ X.waiting)}
    rw [hs, List.nil_append]
section
variable {b bj b2 : Brn} {out o2 : List Int} {fu : Nat}
theorem adv_one (hK : KeepB b bj) (hO : BrOK bj) (r : Int) (hk2 : KeepB bj b2)
    (hst : CtlOK bj.target.xs.length (rdB bj).length (startC (rdB bj) (stB bj) {cB bj with round := r}) ∧ measC (rdB bj).length (startC (rdB bj) (stB bj) {cB bj with round := r}) = measC (rdB bj).length (cB bj) - 1 ∧ (startC (rdB bj) (stB bj) {cB bj with round := r}).sent.length ≤ (cB bj).sent.length + 1000)
    (hadv : advC (rdB b) (stB b) fu (startC (rdB b) (stB b) {({cB bj with sent := out} : Ctl) with round := r}) = advA (rdB b) (stB b) (cB b)) (hm : measC (rdB b).length (cB bj) < ((fu + 1 : Nat) : Int))
    (e2 : cB b2 = noS (startC (rdB bj) (stB bj) {cB bj with round := r})) (eo : o2 = (startC (rdB bj) (stB bj) {cB bj with round := r}).sent) :
    KeepB b b2 ∧ advC (rdB b) (stB b) fu {cB b2 with sent := out ++ o2} = advA (rdB b) (stB b) (cB b) ∧ measC (rdB b).length (cB b2) < (fu : Int) ∧ BrOK b2 ∧ o2.length ≤ 1000 := by
  have h1 := keepB_rd hK
  have h2 := keepB_st hK
  refine ⟨hK.trans hk2, ?_, ?_, machOK_of hO hk2.2 ?_, ?_⟩
  · rw [← hadv, ← h1, ← h2]
    have e := startO (R := rdB bj) (S := stB bj) {cB bj with round := r} out
    rw [e2, eo]
    exact congrArg (advC (rdB bj) (stB bj) fu) e.symm
  · have h3 := hst.2.1
    have hl : (rdB b).length = (rdB bj).length := by rw [h1]
    have this : measC (rdB bj).length (cB b2) = measC (rdB bj).length (startC (rdB bj) (stB bj) {cB bj with round := r}) := by rw [e2]; rfl
    rw [hl] at hm ⊢
    rw [this, h3]
    omega
  · show CtlOK _ _ (cB b2)
    rw [e2]
    exact hst.1.sent []
  · rw [eo]
    have := hst.2.2
    simpa [cB, absM, mB] using this
end
end Go.Proofs.Ytobggnpnochnnaa.V
namespace Go.Proofs.Ytobggnpnochnnaa.V
open Go.RowKit Go.Proofs.Ytobggnpnochnnaa
set_option linter.unusedVariables false
set_option linter.unusedSimpArgs false
set_option maxHeartbeats 2000000 in
set_option maxRecDepth 20000 in
theorem rAdv (w : World) (F : Nat → Prop) (hF : Old F w) (b_b : Nat) (b : Brn) (M : MS [In (ow (brF b_b b))] w) (hD : ∀ k, In [In (ow (brF b_b b))] k → ¬ F k) (b_k : brK b) (b_K : (bnO (brF b_b b)).p F (In [In (ow (brF b_b b))]) w) (ok : BrOK b) :
 Calls Try.prog 121 #[pT b_b 0] w fun e w' => ∃ (ra : Option Addr) (rc : Nat) (b_1 : Brn), e = .returned (.slice ra (((advA (rdB b) (stB b) (cB b)).sent).length) rc) ∧ Row intE 3 w.heap.size F [abk ra, In (ow (brF b_b b_1))] w' ra rc ((advA (rdB b) (stB b) (cB b)).sent) ∧ brK b_1 ∧ (bnO (brF b_b b_1)).p F (In [abk ra, In (ow (brF b_b b_1))]) w' ∧ (KeepB b b_1 ∧ cB b_1 = noS (advA (rdB b) (stB b) (cB b))) ∧ Tr [In (ow (brF b_b b))] w [abk ra, In (ow (brF b_b b_1))] w' := by
 have hMo : BrOK b := ok
 have h17 : measC (rdB b).length (cB b) ≤ 17 := meas_le hMo.2 hMo.1.r1
 refine go Try.func121 rfl 79 rfl [] [bnO (brF b_b b)] hF M trivial ⟨b_K, trivial⟩ ?_
 intro a S
 refine rs S (la (av rfl)) ?_; clear S; intro a u S
 refine rs S (la (av rfl)) ?_; clear S; intro a u S
 refine wp_seq (wp_block ?_)
 replace S := S.nr intE 3
 refine lp5 (fun (f : Nat) (bj : Brn) (out_a : Option Addr) (out_c : Nat) (out : List Int) => [(0, pT b_b 0), (3, .slice out_a out.length out_c)]) (fun (f : Nat) (bj : Brn) (out_a : Option Addr) (out_c : Nat) (out : List Int) => [bnO (brF b_b bj), rwO intE 3 w.heap.size out_a out_c out]) (fun (f : Nat) (bj : Brn) (out_a : Option Addr) (out_c : Nat) (out : List Int) => brK bj ∧ (KeepB b bj ∧ advC (rdB b) (stB b) f {cB bj with sent := out} = advA (rdB b) (stB b) (cB b) ∧ measC (rdB b).length (cB bj) < f ∧ BrOK bj ∧ out.length + 1000 * f ≤ 40000)) (fun (f : Nat) (bj : Brn) (out_a : Option Addr) (out_c : Nat) (out : List Int) => f) S 40 b none 0 ([]) (subM rfl) rfl ?_ ?_
 ·refine ⟨b_k, ?_⟩
  exact ⟨KeepB.refl b, rfl, by omega, hMo, by simp⟩
 clear S; intro f bj out_a out_c out a u S hR
 have out_len := (S.row 1 rfl).len_le; simp only [maxLen] at out_len
 obtain ⟨hk_bj, hR⟩ := hR
 obtain ⟨hKm, hadv, hme, hMj, hsl⟩ := hR
 have hrl : (rdB bj).length = bj.rounds.xs.length := rds_len (mB bj)
 have hP1 : (rdB bj).length ≤ 16 := hMj.1.r1
 have hC1 : -1 ≤ bj.round ∧ bj.round ≤ ((rdB bj).length : Int) := hMj.2.rd
 have hsq : 0 ≤ bj.seq ∧ bj.seq ≤ 40 := hMj.2.sqb hMj.1.r1
 have hkr := keepB_rd hKm
 have hks := keepB_st hKm
 have hmp := meas_pos hMj.2
 have hmp2 : 0 ≤ measC (rdB b).length (cB bj) := by rw [← hkr]; exact hmp
 obtain ⟨fu, rfl⟩ : ∃ g, f = g + 1 := ⟨f - 1, by omega⟩
 have hwl : bj.waiting.xs.length ≤ bj.target.xs.length := hMj.2.wt.len
 have htl : bj.target.xs.length ≤ 1000 := hMj.1.n1
 refine wp_seq (rs0 ?_)
 refine sp S (tr (mv rfl)<|la (ov fun S=>x_nilck (S.e rfl))) ?_; clear S; intro a u S
 replace S := S.pk [1, 0] (os' := [rwO intE 3 w.heap.size out_a out_c out, bnO (brF b_b bj)])
 replace S := (show St _ _ _ _ _ _ [rwO intE 3 w.heap.size out_a out_c out, blO b_b [bD (bj.staged = true), sV bj.rounds, sV bj.states, iI bj.round, bD (bj.back = true), iI bj.seq, sV bj.target, sV bj.known, sV bj.waiting] 89, daO (slE (slE chgE)) bj.rounds, daO (slE (slE intE)) bj.states, daO (slE intE) bj.target, daO (slE intE) bj.known, daO (slE intE) bj.waiting] _ _ from S.opn (ks := [rwO intE 3 w.heap.size out_a out_c out]))
 replace S := S.ar (wfF (slE (slE chgE)) bj.rounds) (S.da 2 rfl)
 replace S := S.ar (wfF (slE (slE intE)) bj.states) (S.da 3 rfl)
 replace S := S.ar (wfF (slE intE) bj.target) (S.da 4 rfl)
 replace S := S.ar (wfF (slE intE) bj.known) (S.da 5 rfl)
 replace S := S.ar (wfF (slE intE) bj.waiting) (S.da 6 rfl)
 replace S := S.pk [0, 1] (os' := [rwO intE 3 w.heap.size out_a out_c out, blO b_b [bD (bj.staged = true), sV bj.rounds, sV bj.states, iI bj.round, bD (bj.back = true), iI bj.seq, sV bj.target, sV bj.known, sV bj.waiting] 89])
 have : bj.rounds.xs.length ≤ 9223372036854775807 := ((S.u 0 rfl)).1.len
 have : bj.states.xs.length ≤ 9223372036854775807 := ((S.u 1 rfl)).1.len
 have : bj.target.xs.length ≤ 9223372036854775807 := ((S.u 2 rfl)).1.len
 have : bj.known.xs.length ≤ 9223372036854775807 := ((S.u 3 rfl)).1.len
 have : bj.waiting.xs.length ≤ 9223372036854775807 := ((S.u 4 rfl)).1.len
 obtain ⟨_, _⟩ : inI64 bj.round := hk_bj.1
 obtain ⟨_, _⟩ : inI64 bj.seq := hk_bj.2
 have hn4 : bj.waiting.xs.length ≤ 9223372036854775807 := ((S.u 4 rfl)).1.len
 refine ens S (tr (fldi 0 3 rfl uT89)<|tr (fldi (0 + 3) 5 rfl uT57)<|tr (ldk 1 sC22 rfl rfl rfl)<|tr (leni uT22 rfl)<|la (eqli rfl rfl)) ?_; clear S; intro a u S
 refine cd S rfl ?_ ?_
 ·intro hc0
  refine wp_skip (then_n (wp_block (wp_seq ?_)))
  refine rs S (tr (mv rfl)<|tr (ov fun S=>x_nilck (S.e rfl))<|tr (fldi 0 3 rfl uT89)<|tr (fldi (0 + 3) 1 rfl uT57)<|la (ldk 1 sC4 rfl rfl rfl)) ?_; clear S; intro a u S
  refine cd S rfl ?_ ?_
  ·intro hc1
   refine wp_seq ?_
   refine rs S (tr (mv rfl)<|tr (ov fun S=>x_nilck (S.e rfl))<|tr (fldi 0 3 rfl uT89)<|tr (fldi (0 + 3) 0 rfl uT57)<|tr (ldk 1 sC3 rfl rfl rfl)<|la (lssi rfl rfl)) ?_; clear S; intro a u S
   refine cd S rfl ?_ ?_
   ·intro hc2
    have he : ({cB bj with sent := out} : Ctl) = advA (rdB b) (stB b) (cB b) := by
     rw [← hadv, advC, if_neg (show ¬ 0 < ({cB bj with sent := out} : Ctl).waiting.length from fun h => by have h2 : 0 < bj.waiting.xs.length := h; omega), if_neg (show ¬ (({cB bj with sent := out} : Ctl).back = true ∧ 0 ≤ ({cB bj with sent := out} : Ctl).round) from fun h => by have h2 : 0 ≤ bj.round := h.2; omega), if_neg (show ¬ (¬ ({cB bj with sent := out} : Ctl).back = true ∧ ({cB bj with sent := out} : Ctl).round < ((rdB b).length : Int)) from fun h => h.1 hc1)]
    refine rs S (tr (mv rfl)<|la (av rfl)) ?_; clear S; intro a u S
    refine wp_ret (then_r (then_r (blk_r (then_r (blk_r (then_r ?_))))))
    replace S := S.oda (E := slE (slE chgE)) (x := bj.rounds) (S.u 0 rfl)
    replace S := S.oda (E := slE (slE intE)) (x := bj.states) (S.u 1 rfl)
    replace S := S.oda (E := slE intE) (x := bj.target) (S.u 2 rfl)
    replace S := S.oda (E := slE intE) (x := bj.known) (S.u 3 rfl)
    replace S := S.oda (E := slE intE) (x := bj.waiting) (S.u 4 rfl)
    have hk8 : brK bj := ⟨hk_bj.1, hk_bj.2⟩
    replace S := (show St _ _ _ _ _ _ ([rwO intE 3 w.heap.size out_a out_c out] ++ brF b_b bj) _ _ from S).cls
    replace S := (show St _ _ _ _ _ _ [rwO intE 3 w.heap.size out_a out_c out, bnO (brF b_b bj)] _ _ from S)
    refine ret1 rfl S.s rfl ?_
    have hx9 : (advA (rdB b) (stB b) (cB b)).sent = out := by
     exact congrArg Ctl.sent he.symm
    rw [hx9]
    refine ⟨out_a, out_c, bj, rfl, (S.row 0 rfl), hk8, (S.m.o _ (nth_mem (i := 1) rfl)), ?_, S.m.c⟩
    exact ⟨hKm, by rw [← he]; rfl⟩
   intro hc3
   have hd : CtlOK bj.target.xs.length (rdB bj).length (startC (rdB bj) (stB bj) {cB bj with round := bj.round - 1}) ∧ measC (rdB bj).length (startC (rdB bj) (stB bj) {cB bj with round := bj.round - 1}) = measC (rdB bj).length (cB bj) - 1 ∧ (startC (rdB bj) (stB bj) {cB bj with round := bj.round - 1}).sent.length ≤ (cB bj).sent.length + 1000 := step_down hMj.1 hMj.2 hc1 (show 0 ≤ bj.round from by omega)
   have hsl2 : (startC (rdB bj) (stB bj) {cB bj with round := bj.round - 1}).sent.length ≤ 1000 := hd.2.2
   have hOK : BrOK {bj with round := bj.round - 1} := machOK_of hMj ⟨rfl, rfl⟩ (hMj.2.down hc1 (show 0 ≤ bj.round from by omega))
   have hadv2 := hadv
   rw [advC, if_neg (show ¬ 0 < ({cB bj with sent := out} : Ctl).waiting.length from fun h => by have h2 : 0 < bj.waiting.xs.length := h; omega), if_pos (show ({cB bj with sent := out} : Ctl).back = true ∧ 0 ≤ ({cB bj with sent := out} : Ctl).round from ⟨hc1, by show 0 ≤ bj.round; omega⟩)] at hadv2
   refine wp_skip (then_n ?_)
   refine rg S (tr (mv rfl)<|tr (ov fun S=>x_nilck (S.e rfl))<|tr (fldi 0 3 rfl uT89)<|tr (fldi (0 + 3) 0 rfl uT57)<|tr (ldk 1 sC3 rfl rfl rfl)<|tr (subi (bj.round - 1) rfl rfl (w_i64 (by omega)))<|tr (ov fun S=>x_nilck (S.e rfl))<|tr (fldi 0 3 rfl uT89)<|tr (fldi (0 + 3) 0 rfl uT57)<|la (stk 1 rfl rfl rfl)) ?_; clear S; intro a u S
   refine then_n (wp_seq ?_)
   refine dr (P := Try.prog) S 20 [] [(54, .is _), (55, .is _), (56, .is _), (57, .is _), (58, .is _), (59, .is _), (60, .is _), (61, .is _), (62, .is _), (63, .is _), (64, .is _), (65, .is _), (66, .is _), (67, .is _), (68, .is _), (69, .is _), (70, .is _), (71, .is _), (72, .is _), (73, .is _)] [[], [54], [55], [56], [57], [58], [59], [60], [60, 61], [60, 62], [60, 63], [60, 64], [60], [60, 66], [60, 67], [60, 68], [60, 69], [60, 70], [60, 65, 71], [60, 72]] [73] _ ⟨qd (mv rfl), qd (ov fun S=>x_nilck (S.e rfl)), qd (fldi 0 3 rfl uT89), qd (fldi (0 + 3) 0 rfl uT57), qd (ldk 1 sC3 rfl rfl rfl), qd (geqi rfl rfl), qd (mv rfl), qd (og 60 rfl gt fun S hg=>x_move (S.e rfl)), qd (og 60 rfl gt fun S hg=>x_nilck (S.p rfl hg)), qd (og 60 rfl gt fun S hg=>xf (0) 3 uT89 (S.p rfl hg)), qd (og 60 rfl gt fun S hg=>xf (0 + 3) 0 uT57 (S.p rfl hg)), qd (og 60 rfl gt fun S hg=>x_load sC3 (S.p rfl hg) ((S.k 1 rfl).cell (j := 3) rfl)), qd (og 60 rfl gt fun S hg=>x_move (S.e rfl)), qd (og 60 rfl gt fun S hg=>x_nilck (S.p rfl hg)), qd (og 60 rfl gt fun S hg=>xf (0) 0 uT89 (S.p rfl hg)), qd (og 60 rfl gt fun S hg=>xf (0 + 0) 1 uT47 (S.p rfl hg)), qd (og 60 rfl gt fun S hg=>x_load sC45 (S.p rfl hg) ((S.k 1 rfl).cell (j := 1) rfl)), qd (og 60 rfl gt fun S hg=>x_len uT45 (S.p rfl hg)), qd (og 60 rfl gt fun S hg=>x_lss (S.p rfl hg) (S.p rfl hg)), qd (andi rfl rfl rfl), trivial⟩ ?_
   clear S; intro a u S G hE
   refine ent ?_
   refine cd S rfl ?_ ?_
   ·intro hc4
    refine r0 ?_
    refine sp S (tr (mv rfl)<|la (mv rfl)) ?_; clear S; intro a u S
    replace S := S.oda (E := slE (slE chgE)) (x := bj.rounds) (S.u 0 rfl)
    replace S := S.oda (E := slE (slE intE)) (x := bj.states) (S.u 1 rfl)
    replace S := S.oda (E := slE intE) (x := bj.target) (S.u 2 rfl)
    replace S := S.oda (E := slE intE) (x := bj.known) (S.u 3 rfl)
    replace S := S.oda (E := slE intE) (x := bj.waiting) (S.u 4 rfl)
    have hk12 : brK (⟨bj.staged, bj.rounds, bj.states, (bj.round - 1), bj.back, bj.seq, bj.target, bj.known, bj.waiting⟩ : Brn) := ⟨(show inI64 (bj.round - 1) from ⟨by omega, by omega⟩), hk_bj.2⟩
    replace S := (show St _ _ _ _ _ _ ([rwO intE 3 w.heap.size out_a out_c out] ++ brF b_b (⟨bj.staged, bj.rounds, bj.states, (bj.round - 1), bj.back, bj.seq, bj.target, bj.known, bj.waiting⟩ : Brn)) _ _ from S).cls
    replace S := (show St _ _ _ _ _ _ [rwO intE 3 w.heap.size out_a out_c out, bnO (brF b_b (⟨bj.staged, bj.rounds, bj.states, (bj.round - 1), bj.back, bj.seq, bj.target, bj.known, bj.waiting⟩ : Brn))] _ _ from S)
    obtain ⟨y13, hy13⟩ : ∃ y : Brn, (⟨bj.staged, bj.rounds, bj.states, (bj.round - 1), bj.back, bj.seq, bj.target, bj.known, bj.waiting⟩ : Brn) = y := ⟨_, rfl⟩; rw [hy13] at S hk12
    refine cl S (rStart _ _ (S.xx (ow [bnO (brF b_b y13)])) b_b y13 (S.mF (ks := [rwO intE 3 w.heap.size out_a out_c out]) (fs := [bnO (brF b_b y13)])) (S.nfF (ks := [rwO intE 3 w.heap.size out_a out_c out]) (fs := [bnO (brF b_b y13)]) hD) hk12 (S.dF (ks := [rwO intE 3 w.heap.size out_a out_c out]) (fs := [bnO (brF b_b y13)]) 0 rfl (mo_bn (mo_br _ _))) (by subst hy13; exact (⟨by first | assumption | exact hOK, by first | omega | (dsimp only; omega), by first | omega | (dsimp only; omega)⟩))) cB109 ?_
    rintro e u ⟨ra_t76, rc_t76, b_t76, rfl, R_t76, hk_b_t76, hK_b_t76, hq_b_t76, T0⟩; refine ⟨_, rfl, fun a s => ?_⟩
    have S2 := S.kF (ks := [rwO intE 3 w.heap.size out_a out_c out]) (fs := [bnO (brF b_b y13)]) [rwO intE 3 0 ra_t76 rc_t76 ((startC (rdB y13) (stB y13) (cB y13)).sent), bnO (brF b_b b_t76)] s T0 ⟨⟨R_t76.b0.own, R_t76.wf⟩, hK_b_t76, trivial⟩ ⟨mo_rw, (mo_bn (mo_br _ _)), trivial⟩
    replace S2 := (show St _ _ _ _ _ _ [rwO intE 3 w.heap.size out_a out_c out, rwO intE 3 0 ra_t76 rc_t76 ((startC (rdB y13) (stB y13) (cB y13)).sent), bnO (brF b_b b_t76)] _ _ from S2)
    clear S; have S := S2; clear S2 s T0 hK_b_t76 R_t76
    subst hy13
    have hs76 : ((startC (rdB (⟨bj.staged, bj.rounds, bj.states, (bj.round - 1), bj.back, bj.seq, bj.target, bj.known, bj.waiting⟩ : Brn)) (stB (⟨bj.staged, bj.rounds, bj.states, (bj.round - 1), bj.back, bj.seq, bj.target, bj.known, bj.waiting⟩ : Brn)) (cB (⟨bj.staged, bj.rounds, bj.states, (bj.round - 1), bj.back, bj.seq, bj.target, bj.known, bj.waiting⟩ : Brn))).sent).length ≤ 1000 := hsl2
    refine ap (E := intE) (ys := (startC (rdB (⟨bj.staged, bj.rounds, bj.states, (bj.round - 1), bj.back, bj.seq, bj.target, bj.known, bj.waiting⟩ : Brn)) (stB (⟨bj.staged, bj.rounds, bj.states, (bj.round - 1), bj.back, bj.seq, bj.target, bj.known, bj.waiting⟩ : Brn)) (cB (⟨bj.staged, bj.rounds, bj.states, (bj.round - 1), bj.back, bj.seq, bj.target, bj.known, bj.waiting⟩ : Brn))).sent) S 0 rfl uT22 iZ3 rfl rfl ((S.row 1 rfl).lat (by first | decide | exact Nat.one_pos | exact Nat.succ_pos _)) (S.row 1 rfl).cap_le.2 (S.row 1 rfl).wf ⟨by unfold maxLen; (try simp only [List.length_cons, List.length_nil, List.length_append, List.length_map]); omega, by (try simp only [List.length_cons, List.length_nil, List.length_append, List.length_map]); omega⟩ ?_; clear S; intro a u ad77 cap77 S
    refine en S (la (av rfl)) ?_; clear S; intro a u S
    refine blk_n ?_
    replace S := S.pk [2, 0]
    refine then_n ?_
    refine ⟨fu, b_t76, ad77, cap77, (out ++ (startC (rdB (⟨bj.staged, bj.rounds, bj.states, (bj.round - 1), bj.back, bj.seq, bj.target, bj.known, bj.waiting⟩ : Brn)) (stB (⟨bj.staged, bj.rounds, bj.states, (bj.round - 1), bj.back, bj.seq, bj.target, bj.known, bj.waiting⟩ : Brn)) (cB (⟨bj.staged, bj.rounds, bj.states, (bj.round - 1), bj.back, bj.seq, bj.target, bj.known, bj.waiting⟩ : Brn))).sent), S.re (subM rfl) rfl rfl, ?_, ?_⟩
    ·refine ⟨hk_b_t76, ?_⟩
     first
     | (have h := adv_one hKm hMj _ (b2 := b_t76) ⟨hq_b_t76.1.1, hq_b_t76.1.2⟩ hd hadv2 hme hq_b_t76.2 rfl
        exact ⟨h.1, h.2.1, h.2.2.1, h.2.2.2.1, by have h5 := h.2.2.2.2; rw [List.length_append]; exact Nat.le_trans (Nat.add_le_add_right (Nat.add_le_add_left h5 _) _) (by omega)⟩)
     | (have h := adv_one (out := out) (o2 := []) hKm hMj _ (b2 := {bj with round := bj.round - 1}) ⟨rfl, rfl, rfl⟩ hd hadv2 hme (by rw [hout]; rfl) (by rw [hout]; rfl)
        rw [List.append_nil] at h
        exact ⟨h.1, h.2.1, h.2.2.1, h.2.2.2.1, by omega⟩)
     | (have h := adv_one (out := out) (o2 := []) hKm hMj _ (b2 := {bj with round := bj.round + 1}) ⟨rfl, rfl, rfl⟩ hd hadv2 hme (by rw [hout]; rfl) (by rw [hout]; rfl)
        rw [List.append_nil] at h
        exact ⟨h.1, h.2.1, h.2.2.1, h.2.2.2.1, by omega⟩)
    omega
   intro hc5
   have hout : startC (rdB bj) (stB bj) {cB bj with round := bj.round - 1} = {cB bj with round := bj.round - 1} := startC_out (by show bj.round - 1 < 0 ∨ ((rdB bj).length : Int) ≤ bj.round - 1; omega)
   refine wp_skip (blk_n ?_)
   replace S := S.oda (E := slE (slE chgE)) (x := bj.rounds) (S.u 0 rfl)
   replace S := S.oda (E := slE (slE intE)) (x := bj.states) (S.u 1 rfl)
   replace S := S.oda (E := slE intE) (x := bj.target) (S.u 2 rfl)
   replace S := S.oda (E := slE intE) (x := bj.known) (S.u 3 rfl)
   replace S := S.oda (E := slE intE) (x := bj.waiting) (S.u 4 rfl)
   have hk14 : brK (⟨bj.staged, bj.rounds, bj.states, (bj.round - 1), bj.back, bj.seq, bj.target, bj.known, bj.waiting⟩ : Brn) := ⟨(show inI64 (bj.round - 1) from ⟨by omega, by omega⟩), hk_bj.2⟩
   replace S := (show St _ _ _ _ _ _ ([rwO intE 3 w.heap.size out_a out_c out] ++ brF b_b (⟨bj.staged, bj.rounds, bj.states, (bj.round - 1), bj.back, bj.seq, bj.target, bj.known, bj.waiting⟩ : Brn)) _ _ from S).cls
   replace S := (show St _ _ _ _ _ _ [rwO intE 3 w.heap.size out_a out_c out, bnO (brF b_b (⟨bj.staged, bj.rounds, bj.states, (bj.round - 1), bj.back, bj.seq, bj.target, bj.known, bj.waiting⟩ : Brn))] _ _ from S)
   replace S := S.pk [1, 0]
   refine then_n ?_
   refine ⟨fu, (⟨bj.staged, bj.rounds, bj.states, (bj.round - 1), bj.back, bj.seq, bj.target, bj.known, bj.waiting⟩ : Brn), out_a, out_c, out, S.re (subM rfl) rfl rfl, ?_, ?_⟩
   ·refine ⟨hk14, ?_⟩
    first
    | (have h := adv_one hKm hMj _ (b2 := b_t76) ⟨hq_b_t76.1.1, hq_b_t76.1.2⟩ hd hadv2 hme hq_b_t76.2 rfl
       exact ⟨h.1, h.2.1, h.2.2.1, h.2.2.2.1, by have h5 := h.2.2.2.2; rw [List.length_append]; exact Nat.le_trans (Nat.add_le_add_right (Nat.add_le_add_left h5 _) _) (by omega)⟩)
    | (have h := adv_one (out := out) (o2 := []) hKm hMj _ (b2 := {bj with round := bj.round - 1}) ⟨rfl, rfl, rfl⟩ hd hadv2 hme (by rw [hout]; rfl) (by rw [hout]; rfl)
       rw [List.append_nil] at h
       exact ⟨h.1, h.2.1, h.2.2.1, h.2.2.2.1, by omega⟩)
    | (have h := adv_one (out := out) (o2 := []) hKm hMj _ (b2 := {bj with round := bj.round + 1}) ⟨rfl, rfl, rfl⟩ hd hadv2 hme (by rw [hout]; rfl) (by rw [hout]; rfl)
       rw [List.append_nil] at h
       exact ⟨h.1, h.2.1, h.2.2.1, h.2.2.2.1, by omega⟩)
   omega
  intro hc6
  refine wp_seq (wp_seq ?_)
  have hn15 : bj.rounds.xs.length ≤ 9223372036854775807 := ((S.u 0 rfl)).1.len
  refine dr (P := Try.prog) S 12 [] [(32, .is _), (33, .is _), (34, .is _), (35, .is _), (36, .is _), (37, .is _), (38, .is _), (39, .is _), (40, .is _), (41, .is _), (42, .is _), (43, .is _)] [[], [32], [33], [34], [35], [], [37], [38], [39], [40], [41], [36, 42]] [43] _ ⟨qd (mv rfl), qd (ov fun S=>x_nilck (S.e rfl)), qd (fldi 0 3 rfl uT89), qd (fldi (0 + 3) 0 rfl uT57), qd (ldk 1 sC3 rfl rfl rfl), qd (mv rfl), qd (ov fun S=>x_nilck (S.e rfl)), qd (fldi 0 0 rfl uT89), qd (fldi (0 + 0) 1 rfl uT47), qd (ldk 1 sC45 rfl rfl rfl), qd (leni uT45 rfl), qd (geqi rfl rfl), trivial⟩ ?_
  clear S; intro a u S G hE
  obtain ⟨hl16, hu16⟩ : inI64 bj.round := id hk_bj.1
  refine ent ?_
  refine cd S rfl ?_ ?_
  ·intro hc7
   have he : ({cB bj with sent := out} : Ctl) = advA (rdB b) (stB b) (cB b) := by
    rw [← hadv, advC, if_neg (show ¬ 0 < ({cB bj with sent := out} : Ctl).waiting.length from fun h => by have h2 : 0 < bj.waiting.xs.length := h; omega), if_neg (show ¬ (({cB bj with sent := out} : Ctl).back = true ∧ 0 ≤ ({cB bj with sent := out} : Ctl).round) from fun h => hc6 h.1), if_neg (show ¬ (¬ ({cB bj with sent := out} : Ctl).back = true ∧ ({cB bj with sent := out} : Ctl).round < ((rdB b).length : Int)) from fun h => by have h2 : bj.round < ((rdB b).length : Int) := h.2; rw [← hkr] at h2; omega)]
   refine rs S (tr (mv rfl)<|la (av rfl)) ?_; clear S; intro a u S
   refine wp_ret (then_r (then_r (blk_r (then_r (blk_r (then_r ?_))))))
   replace S := S.oda (E := slE (slE chgE)) (x := bj.rounds) (S.u 0 rfl)
   replace S := S.oda (E := slE (slE intE)) (x := bj.states) (S.u 1 rfl)
   replace S := S.oda (E := slE intE) (x := bj.target) (S.u 2 rfl)
   replace S := S.oda (E := slE intE) (x := bj.known) (S.u 3 rfl)
   replace S := S.oda (E := slE intE) (x := bj.waiting) (S.u 4 rfl)
   have hk18 : brK bj := ⟨hk_bj.1, hk_bj.2⟩
   replace S := (show St _ _ _ _ _ _ ([rwO intE 3 w.heap.size out_a out_c out] ++ brF b_b bj) _ _ from S).cls
   replace S := (show St _ _ _ _ _ _ [rwO intE 3 w.heap.size out_a out_c out, bnO (brF b_b bj)] _ _ from S)
   refine ret1 rfl S.s rfl ?_
   have hx19 : (advA (rdB b) (stB b) (cB b)).sent = out := by
    exact congrArg Ctl.sent he.symm
   rw [hx19]
   refine ⟨out_a, out_c, bj, rfl, (S.row 0 rfl), hk18, (S.m.o _ (nth_mem (i := 1) rfl)), ?_, S.m.c⟩
   exact ⟨hKm, by rw [← he]; rfl⟩
  intro hc8
  have hlt : bj.round < ((rdB bj).length : Int) := by omega
  have hd : CtlOK bj.target.xs.length (rdB bj).length (startC (rdB bj) (stB bj) {cB bj with round := bj.round + 1}) ∧ measC (rdB bj).length (startC (rdB bj) (stB bj) {cB bj with round := bj.round + 1}) = measC (rdB bj).length (cB bj) - 1 ∧ (startC (rdB bj) (stB bj) {cB bj with round := bj.round + 1}).sent.length ≤ (cB bj).sent.length + 1000 := step_up hMj.1 hMj.2 hc6 hlt
  have hsl2 : (startC (rdB bj) (stB bj) {cB bj with round := bj.round + 1}).sent.length ≤ 1000 := hd.2.2
  have hOK : BrOK {bj with round := bj.round + 1} := machOK_of hMj ⟨rfl, rfl⟩ (hMj.2.up hc6 hlt)
  have hadv2 := hadv
  rw [advC, if_neg (show ¬ 0 < ({cB bj with sent := out} : Ctl).waiting.length from fun h => by have h2 : 0 < bj.waiting.xs.length := h; omega), if_neg (show ¬ (({cB bj with sent := out} : Ctl).back = true ∧ 0 ≤ ({cB bj with sent := out} : Ctl).round) from fun h => hc6 h.1), if_pos (show ¬ ({cB bj with sent := out} : Ctl).back = true ∧ ({cB bj with sent := out} : Ctl).round < ((rdB b).length : Int) from ⟨hc6, by rw [← hkr]; exact hlt⟩)] at hadv2
  refine wp_skip (then_n ?_)
  refine rg S (tr (mv rfl)<|tr (ov fun S=>x_nilck (S.e rfl))<|tr (fldi 0 3 rfl uT89)<|tr (fldi (0 + 3) 0 rfl uT57)<|tr (ldk 1 sC3 rfl rfl rfl)<|tr (addi (bj.round + 1) rfl rfl (w_i64 (by omega)))<|tr (ov fun S=>x_nilck (S.e rfl))<|tr (fldi 0 3 rfl uT89)<|tr (fldi (0 + 3) 0 rfl uT57)<|la (stk 1 rfl rfl rfl)) ?_; clear S; intro a u S
  refine then_n (wp_seq ?_)
  refine dr (P := Try.prog) S 20 [] [(54, .is _), (55, .is _), (56, .is _), (57, .is _), (58, .is _), (59, .is _), (60, .is _), (61, .is _), (62, .is _), (63, .is _), (64, .is _), (65, .is _), (66, .is _), (67, .is _), (68, .is _), (69, .is _), (70, .is _), (71, .is _), (72, .is _), (73, .is _)] [[], [54], [55], [56], [57], [58], [59], [60], [60, 61], [60, 62], [60, 63], [60, 64], [60], [60, 66], [60, 67], [60, 68], [60, 69], [60, 70], [60, 65, 71], [60, 72]] [73] _ ⟨qd (mv rfl), qd (ov fun S=>x_nilck (S.e rfl)), qd (fldi 0 3 rfl uT89), qd (fldi (0 + 3) 0 rfl uT57), qd (ldk 1 sC3 rfl rfl rfl), qd (geqi rfl rfl), qd (mv rfl), qd (og 60 rfl gt fun S hg=>x_move (S.e rfl)), qd (og 60 rfl gt fun S hg=>x_nilck (S.p rfl hg)), qd (og 60 rfl gt fun S hg=>xf (0) 3 uT89 (S.p rfl hg)), qd (og 60 rfl gt fun S hg=>xf (0 + 3) 0 uT57 (S.p rfl hg)), qd (og 60 rfl gt fun S hg=>x_load sC3 (S.p rfl hg) ((S.k 1 rfl).cell (j := 3) rfl)), qd (og 60 rfl gt fun S hg=>x_move (S.e rfl)), qd (og 60 rfl gt fun S hg=>x_nilck (S.p rfl hg)), qd (og 60 rfl gt fun S hg=>xf (0) 0 uT89 (S.p rfl hg)), qd (og 60 rfl gt fun S hg=>xf (0 + 0) 1 uT47 (S.p rfl hg)), qd (og 60 rfl gt fun S hg=>x_load sC45 (S.p rfl hg) ((S.k 1 rfl).cell (j := 1) rfl)), qd (og 60 rfl gt fun S hg=>x_len uT45 (S.p rfl hg)), qd (og 60 rfl gt fun S hg=>x_lss (S.p rfl hg) (S.p rfl hg)), qd (andi rfl rfl rfl), trivial⟩ ?_
  clear S; intro a u S G hE
  refine ent ?_
  refine cd S rfl ?_ ?_
  ·intro hc9
   refine r0 ?_
   refine sp S (tr (mv rfl)<|la (mv rfl)) ?_; clear S; intro a u S
   replace S := S.oda (E := slE (slE chgE)) (x := bj.rounds) (S.u 0 rfl)
   replace S := S.oda (E := slE (slE intE)) (x := bj.states) (S.u 1 rfl)
   replace S := S.oda (E := slE intE) (x := bj.target) (S.u 2 rfl)
   replace S := S.oda (E := slE intE) (x := bj.known) (S.u 3 rfl)
   replace S := S.oda (E := slE intE) (x := bj.waiting) (S.u 4 rfl)
   have hk22 : brK (⟨bj.staged, bj.rounds, bj.states, (bj.round + 1), bj.back, bj.seq, bj.target, bj.known, bj.waiting⟩ : Brn) := ⟨(show inI64 (bj.round + 1) from ⟨by omega, by omega⟩), hk_bj.2⟩
   replace S := (show St _ _ _ _ _ _ ([rwO intE 3 w.heap.size out_a out_c out] ++ brF b_b (⟨bj.staged, bj.rounds, bj.states, (bj.round + 1), bj.back, bj.seq, bj.target, bj.known, bj.waiting⟩ : Brn)) _ _ from S).cls
   replace S := (show St _ _ _ _ _ _ [rwO intE 3 w.heap.size out_a out_c out, bnO (brF b_b (⟨bj.staged, bj.rounds, bj.states, (bj.round + 1), bj.back, bj.seq, bj.target, bj.known, bj.waiting⟩ : Brn))] _ _ from S)
   obtain ⟨y23, hy23⟩ : ∃ y : Brn, (⟨bj.staged, bj.rounds, bj.states, (bj.round + 1), bj.back, bj.seq, bj.target, bj.known, bj.waiting⟩ : Brn) = y := ⟨_, rfl⟩; rw [hy23] at S hk22
   refine cl S (rStart _ _ (S.xx (ow [bnO (brF b_b y23)])) b_b y23 (S.mF (ks := [rwO intE 3 w.heap.size out_a out_c out]) (fs := [bnO (brF b_b y23)])) (S.nfF (ks := [rwO intE 3 w.heap.size out_a out_c out]) (fs := [bnO (brF b_b y23)]) hD) hk22 (S.dF (ks := [rwO intE 3 w.heap.size out_a out_c out]) (fs := [bnO (brF b_b y23)]) 0 rfl (mo_bn (mo_br _ _))) (by subst hy23; exact (⟨by first | assumption | exact hOK, by first | omega | (dsimp only; omega), by first | omega | (dsimp only; omega)⟩))) cB109 ?_
   rintro e u ⟨ra_t76, rc_t76, b_t76, rfl, R_t76, hk_b_t76, hK_b_t76, hq_b_t76, T0⟩; refine ⟨_, rfl, fun a s => ?_⟩
   have S2 := S.kF (ks := [rwO intE 3 w.heap.size out_a out_c out]) (fs := [bnO (brF b_b y23)]) [rwO intE 3 0 ra_t76 rc_t76 ((startC (rdB y23) (stB y23) (cB y23)).sent), bnO (brF b_b b_t76)] s T0 ⟨⟨R_t76.b0.own, R_t76.wf⟩, hK_b_t76, trivial⟩ ⟨mo_rw, (mo_bn (mo_br _ _)), trivial⟩
   replace S2 := (show St _ _ _ _ _ _ [rwO intE 3 w.heap.size out_a out_c out, rwO intE 3 0 ra_t76 rc_t76 ((startC (rdB y23) (stB y23) (cB y23)).sent), bnO (brF b_b b_t76)] _ _ from S2)
   clear S; have S := S2; clear S2 s T0 hK_b_t76 R_t76
   subst hy23
   have hs76 : ((startC (rdB (⟨bj.staged, bj.rounds, bj.states, (bj.round + 1), bj.back, bj.seq, bj.target, bj.known, bj.waiting⟩ : Brn)) (stB (⟨bj.staged, bj.rounds, bj.states, (bj.round + 1), bj.back, bj.seq, bj.target, bj.known, bj.waiting⟩ : Brn)) (cB (⟨bj.staged, bj.rounds, bj.states, (bj.round + 1), bj.back, bj.seq, bj.target, bj.known, bj.waiting⟩ : Brn))).sent).length ≤ 1000 := hsl2
   refine ap (E := intE) (ys := (startC (rdB (⟨bj.staged, bj.rounds, bj.states, (bj.round + 1), bj.back, bj.seq, bj.target, bj.known, bj.waiting⟩ : Brn)) (stB (⟨bj.staged, bj.rounds, bj.states, (bj.round + 1), bj.back, bj.seq, bj.target, bj.known, bj.waiting⟩ : Brn)) (cB (⟨bj.staged, bj.rounds, bj.states, (bj.round + 1), bj.back, bj.seq, bj.target, bj.known, bj.waiting⟩ : Brn))).sent) S 0 rfl uT22 iZ3 rfl rfl ((S.row 1 rfl).lat (by first | decide | exact Nat.one_pos | exact Nat.succ_pos _)) (S.row 1 rfl).cap_le.2 (S.row 1 rfl).wf ⟨by unfold maxLen; (try simp only [List.length_cons, List.length_nil, List.length_append, List.length_map]); omega, by (try simp only [List.length_cons, List.length_nil, List.length_append, List.length_map]); omega⟩ ?_; clear S; intro a u ad77 cap77 S
   refine en S (la (av rfl)) ?_; clear S; intro a u S
   refine blk_n ?_
   replace S := S.pk [2, 0]
   refine then_n ?_
   refine ⟨fu, b_t76, ad77, cap77, (out ++ (startC (rdB (⟨bj.staged, bj.rounds, bj.states, (bj.round + 1), bj.back, bj.seq, bj.target, bj.known, bj.waiting⟩ : Brn)) (stB (⟨bj.staged, bj.rounds, bj.states, (bj.round + 1), bj.back, bj.seq, bj.target, bj.known, bj.waiting⟩ : Brn)) (cB (⟨bj.staged, bj.rounds, bj.states, (bj.round + 1), bj.back, bj.seq, bj.target, bj.known, bj.waiting⟩ : Brn))).sent), S.re (subM rfl) rfl rfl, ?_, ?_⟩
   ·refine ⟨hk_b_t76, ?_⟩
    first
    | (have h := adv_one hKm hMj _ (b2 := b_t76) ⟨hq_b_t76.1.1, hq_b_t76.1.2⟩ hd hadv2 hme hq_b_t76.2 rfl
       exact ⟨h.1, h.2.1, h.2.2.1, h.2.2.2.1, by have h5 := h.2.2.2.2; rw [List.length_append]; exact Nat.le_trans (Nat.add_le_add_right (Nat.add_le_add_left h5 _) _) (by omega)⟩)
    | (have h := adv_one (out := out) (o2 := []) hKm hMj _ (b2 := {bj with round := bj.round - 1}) ⟨rfl, rfl, rfl⟩ hd hadv2 hme (by rw [hout]; rfl) (by rw [hout]; rfl)
       rw [List.append_nil] at h
       exact ⟨h.1, h.2.1, h.2.2.1, h.2.2.2.1, by omega⟩)
    | (have h := adv_one (out := out) (o2 := []) hKm hMj _ (b2 := {bj with round := bj.round + 1}) ⟨rfl, rfl, rfl⟩ hd hadv2 hme (by rw [hout]; rfl) (by rw [hout]; rfl)
       rw [List.append_nil] at h
       exact ⟨h.1, h.2.1, h.2.2.1, h.2.2.2.1, by omega⟩)
   omega
  intro hc10
  have hout : startC (rdB bj) (stB bj) {cB bj with round := bj.round + 1} = {cB bj with round := bj.round + 1} := startC_out (by show bj.round + 1 < 0 ∨ ((rdB bj).length : Int) ≤ bj.round + 1; omega)
  refine wp_skip (blk_n ?_)
  replace S := S.oda (E := slE (slE chgE)) (x := bj.rounds) (S.u 0 rfl)
  replace S := S.oda (E := slE (slE intE)) (x := bj.states) (S.u 1 rfl)
  replace S := S.oda (E := slE intE) (x := bj.target) (S.u 2 rfl)
  replace S := S.oda (E := slE intE) (x := bj.known) (S.u 3 rfl)
  replace S := S.oda (E := slE intE) (x := bj.waiting) (S.u 4 rfl)
  have hk24 : brK (⟨bj.staged, bj.rounds, bj.states, (bj.round + 1), bj.back, bj.seq, bj.target, bj.known, bj.waiting⟩ : Brn) := ⟨(show inI64 (bj.round + 1) from ⟨by omega, by omega⟩), hk_bj.2⟩
  replace S := (show St _ _ _ _ _ _ ([rwO intE 3 w.heap.size out_a out_c out] ++ brF b_b (⟨bj.staged, bj.rounds, bj.states, (bj.round + 1), bj.back, bj.seq, bj.target, bj.known, bj.waiting⟩ : Brn)) _ _ from S).cls
  replace S := (show St _ _ _ _ _ _ [rwO intE 3 w.heap.size out_a out_c out, bnO (brF b_b (⟨bj.staged, bj.rounds, bj.states, (bj.round + 1), bj.back, bj.seq, bj.target, bj.known, bj.waiting⟩ : Brn))] _ _ from S)
  replace S := S.pk [1, 0]
  refine then_n ?_
  refine ⟨fu, (⟨bj.staged, bj.rounds, bj.states, (bj.round + 1), bj.back, bj.seq, bj.target, bj.known, bj.waiting⟩ : Brn), out_a, out_c, out, S.re (subM rfl) rfl rfl, ?_, ?_⟩
  ·refine ⟨hk24, ?_⟩
   first
   | (have h := adv_one hKm hMj _ (b2 := b_t76) ⟨hq_b_t76.1.1, hq_b_t76.1.2⟩ hd hadv2 hme hq_b_t76.2 rfl
      exact ⟨h.1, h.2.1, h.2.2.1, h.2.2.2.1, by have h5 := h.2.2.2.2; rw [List.length_append]; exact Nat.le_trans (Nat.add_le_add_right (Nat.add_le_add_left h5 _) _) (by omega)⟩)
   | (have h := adv_one (out := out) (o2 := []) hKm hMj _ (b2 := {bj with round := bj.round - 1}) ⟨rfl, rfl, rfl⟩ hd hadv2 hme (by rw [hout]; rfl) (by rw [hout]; rfl)
      rw [List.append_nil] at h
      exact ⟨h.1, h.2.1, h.2.2.1, h.2.2.2.1, by omega⟩)
   | (have h := adv_one (out := out) (o2 := []) hKm hMj _ (b2 := {bj with round := bj.round + 1}) ⟨rfl, rfl, rfl⟩ hd hadv2 hme (by rw [hout]; rfl) (by rw [hout]; rfl)
      rw [List.append_nil] at h
      exact ⟨h.1, h.2.1, h.2.2.1, h.2.2.2.1, by omega⟩)
  omega
 intro hc11
 have he : ({cB bj with sent := out} : Ctl) = advA (rdB b) (stB b) (cB b) := by
  rw [← hadv, advC, if_pos (show 0 < ({cB bj with sent := out} : Ctl).waiting.length from by show 0 < bj.waiting.xs.length; omega)]
 refine wp_exit (then_e (then_e (blk_e (then_n ?_))))
 refine rs S (tr (mv rfl)<|la (av rfl)) ?_; clear S; intro a u S
 refine wp_ret ?_
 replace S := S.oda (E := slE (slE chgE)) (x := bj.rounds) (S.u 0 rfl)
 replace S := S.oda (E := slE (slE intE)) (x := bj.states) (S.u 1 rfl)
 replace S := S.oda (E := slE intE) (x := bj.target) (S.u 2 rfl)
 replace S := S.oda (E := slE intE) (x := bj.known) (S.u 3 rfl)
 replace S := S.oda (E := slE intE) (x := bj.waiting) (S.u 4 rfl)
 have hk26 : brK bj := ⟨hk_bj.1, hk_bj.2⟩
 replace S := (show St _ _ _ _ _ _ ([rwO intE 3 w.heap.size out_a out_c out] ++ brF b_b bj) _ _ from S).cls
 replace S := (show St _ _ _ _ _ _ [rwO intE 3 w.heap.size out_a out_c out, bnO (brF b_b bj)] _ _ from S)
 refine ret1 rfl S.s rfl ?_
 have hx27 : (advA (rdB b) (stB b) (cB b)).sent = out := by
  exact congrArg Ctl.sent he.symm
 rw [hx27]
 refine ⟨out_a, out_c, bj, rfl, (S.row 0 rfl), hk26, (S.m.o _ (nth_mem (i := 1) rfl)), ?_, S.m.c⟩
 exact ⟨hKm, by rw [← he]; rfl⟩
end Go.Proofs.Ytobggnpnochnnaa.V
namespace Go.Proofs.Ytobggnpnochnnaa.V
open Go.RowKit Go.Proofs.Ytobggnpnochnnaa
set_option linter.unusedVariables false
set_option linter.unusedSimpArgs false
set_option maxHeartbeats 2000000 in
set_option maxRecDepth 20000 in
theorem rSkip (w : World) (F : Nat → Prop) (hF : Old F w) (b_b : Nat) (b : Brn) (M : MS [In (ow (brF b_b b))] w) (hD : ∀ k, In [In (ow (brF b_b b))] k → ¬ F k) (b_k : brK b) (b_K : (bnO (brF b_b b)).p F (In [In (ow (brF b_b b))]) w) (d : Int) (d_h : inI64 d) (ok : BrOK b) :
 Calls Try.prog 94 #[pT b_b 0, iI d] w fun e w' => ∃ (ra : Option Addr) (rc : Nat) (b_1 : Brn), e = .returned (.slice ra (((rmC (rdB b) (stB b) (cB b) d).sent).length) rc) ∧ Row intE 3 0 F [abk ra, In (ow (brF b_b b_1))] w' ra rc ((rmC (rdB b) (stB b) (cB b) d).sent) ∧ brK b_1 ∧ (bnO (brF b_b b_1)).p F (In [abk ra, In (ow (brF b_b b_1))]) w' ∧ (KeepB b b_1 ∧ cB b_1 = noS (rmC (rdB b) (stB b) (cB b) d)) ∧ Tr [In (ow (brF b_b b))] w [abk ra, In (ow (brF b_b b_1))] w' := by
 obtain ⟨d_hl, d_hu⟩ : inI64 d := id d_h
 have hO : BrOK b := ok
 obtain ⟨PO, CO⟩ := ok
 have hPn := PO.n1
 have htn : b.target.xs.length ≤ 1000 := hPn
 have hwt : Asc b.target.xs.length b.waiting.xs := CO.wt
 have hwl := hwt.len
 have hwj : b.waiting.xs.Pairwise (· < ·) ∧ b.waiting.xs.length ≤ 1000 := ⟨hwt.1, by omega⟩
 have hw1 : b.waiting.xs.length ≤ 1000 := hwj.2
 have hkn : b.known.xs.length = b.target.xs.length := CO.kn
 refine go Try.func94 rfl 18 rfl [] [bnO (brF b_b b)] hF M trivial ⟨b_K, trivial⟩ ?_
 intro a S
 refine rs S (la (av rfl)) ?_; clear S; intro a u S
 refine rs0 ?_
 refine sp S (tr (mv rfl)<|tr (mv rfl)<|la (ov fun S=>x_nilck (S.e rfl))) ?_; clear S; intro a u S
 replace S := (show St _ _ _ _ _ _ [blO b_b [bD (b.staged = true), sV b.rounds, sV b.states, iI b.round, bD (b.back = true), iI b.seq, sV b.target, sV b.known, sV b.waiting] 89, daO (slE (slE chgE)) b.rounds, daO (slE (slE intE)) b.states, daO (slE intE) b.target, daO (slE intE) b.known, daO (slE intE) b.waiting] _ _ from S.opn (ks := []))
 replace S := S.ar (wfF (slE (slE chgE)) b.rounds) (S.da 1 rfl)
 replace S := S.ar (wfF (slE (slE intE)) b.states) (S.da 2 rfl)
 replace S := S.ar (wfF (slE intE) b.target) (S.da 3 rfl)
 replace S := S.ar (wfF (slE intE) b.known) (S.da 4 rfl)
 replace S := S.ar (wfF (slE intE) b.waiting) (S.da 5 rfl)
 replace S := S.pk [0] (os' := [blO b_b [bD (b.staged = true), sV b.rounds, sV b.states, iI b.round, bD (b.back = true), iI b.seq, sV b.target, sV b.known, sV b.waiting] 89])
 have : b.rounds.xs.length ≤ 9223372036854775807 := ((S.u 0 rfl)).1.len
 have : b.states.xs.length ≤ 9223372036854775807 := ((S.u 1 rfl)).1.len
 have : b.target.xs.length ≤ 9223372036854775807 := ((S.u 2 rfl)).1.len
 have : b.known.xs.length ≤ 9223372036854775807 := ((S.u 3 rfl)).1.len
 have : b.waiting.xs.length ≤ 9223372036854775807 := ((S.u 4 rfl)).1.len
 obtain ⟨_, _⟩ : inI64 b.round := b_k.1
 obtain ⟨_, _⟩ : inI64 b.seq := b_k.2
 refine sp S (tr (fldi 0 3 rfl uT89)<|tr (fldi (0 + 3) 5 rfl uT57)<|tr (ldk 0 sC22 rfl rfl rfl)<|la (mv rfl)) ?_; clear S; intro a u S
 refine cl S (rWithout _ _ S.x (.nil _) b.waiting (dn0 (S.u 4 rfl)) d d_h (by first | omega | assumption)) cB120 ?_
 rintro e u ⟨ra_t12, rc_t12, rfl, R_t12, T0⟩; refine ⟨_, rfl, fun a s => ?_⟩
 replace S := S.kr [⟨_, intE, 3, ra_t12, rc_t12, (b.waiting.xs.filter fun y => !(y == d))⟩] s T0 ⟨R_t12, trivial⟩; clear s T0 R_t12
 have hOK : BrOK {b with waiting := Sl.mk ra_t12 rc_t12 (b.waiting.xs.filter fun y => !(y == d))} := machOK_of hO ⟨rfl, rfl⟩ ⟨CO.tg, CO.kn, Asc.filt hwt _, CO.rd, CO.sq⟩
 refine ens S (tr (ov fun S=>x_nilck (S.e rfl))<|tr (fldi 0 3 rfl uT89)<|tr (fldi (0 + 3) 5 rfl uT57)<|la (stk 0 rfl rfl rfl)) ?_; clear S; intro a u S
 refine rs0 ?_
 refine sp S (la (mv rfl)) ?_; clear S; intro a u S
 replace S := S.fz 1 rfl
 replace S := S.pk [0] (os' := [blO b_b [bD (b.staged = true), sV b.rounds, sV b.states, iI b.round, bD (b.back = true), iI b.seq, sV b.target, sV b.known, .slice ra_t12 ((b.waiting.xs.filter fun y => !(y == d)).length) rc_t12] 89])
 replace S := S.oda (E := slE (slE chgE)) (x := b.rounds) (S.u 0 rfl)
 replace S := S.oda (E := slE (slE intE)) (x := b.states) (S.u 1 rfl)
 replace S := S.oda (E := slE intE) (x := b.target) (S.u 2 rfl)
 replace S := S.oda (E := slE intE) (x := b.known) (S.u 3 rfl)
 replace S := S.oda (E := slE intE) (x := (Sl.mk ra_t12 rc_t12 (b.waiting.xs.filter fun y => !(y == d)))) (S.u 5 rfl)
 have hk4 : brK (⟨b.staged, b.rounds, b.states, b.round, b.back, b.seq, b.target, b.known, (Sl.mk ra_t12 rc_t12 (b.waiting.xs.filter fun y => !(y == d)))⟩ : Brn) := ⟨b_k.1, b_k.2⟩
 replace S := (show St _ _ _ _ _ _ ([] ++ brF b_b (⟨b.staged, b.rounds, b.states, b.round, b.back, b.seq, b.target, b.known, (Sl.mk ra_t12 rc_t12 (b.waiting.xs.filter fun y => !(y == d)))⟩ : Brn)) _ _ from S).cls
 replace S := (show St _ _ _ _ _ _ [bnO (brF b_b (⟨b.staged, b.rounds, b.states, b.round, b.back, b.seq, b.target, b.known, (Sl.mk ra_t12 rc_t12 (b.waiting.xs.filter fun y => !(y == d)))⟩ : Brn))] _ _ from S)
 obtain ⟨y5, hy5⟩ : ∃ y : Brn, (⟨b.staged, b.rounds, b.states, b.round, b.back, b.seq, b.target, b.known, (Sl.mk ra_t12 rc_t12 (b.waiting.xs.filter fun y => !(y == d)))⟩ : Brn) = y := ⟨_, rfl⟩; rw [hy5] at S hk4
 refine cl S (rAdv _ _ (S.xx (ow [bnO (brF b_b y5)])) b_b y5 (S.mF (ks := []) (fs := [bnO (brF b_b y5)])) (S.nfF (ks := []) (fs := [bnO (brF b_b y5)]) hD) hk4 (S.dF (ks := []) (fs := [bnO (brF b_b y5)]) 0 rfl (mo_bn (mo_br _ _))) (by subst hy5; exact (by first | assumption | exact hOK))) cB121 ?_
 rintro e u ⟨ra_t17, rc_t17, b_t17, rfl, R_t17, hk_b_t17, hK_b_t17, hq_b_t17, T0⟩; refine ⟨_, rfl, fun a s => ?_⟩
 have S2 := S.kF (ks := []) (fs := [bnO (brF b_b y5)]) [rwO intE 3 0 ra_t17 rc_t17 ((advA (rdB y5) (stB y5) (cB y5)).sent), bnO (brF b_b b_t17)] s T0 ⟨⟨R_t17.b0.own, R_t17.wf⟩, hK_b_t17, trivial⟩ ⟨mo_rw, (mo_bn (mo_br _ _)), trivial⟩
 replace S2 := (show St _ _ _ _ _ _ [rwO intE 3 0 ra_t17 rc_t17 ((advA (rdB y5) (stB y5) (cB y5)).sent), bnO (brF b_b b_t17)] _ _ from S2)
 clear S; have S := S2; clear S2 s T0 hK_b_t17 R_t17
 subst hy5
 refine ens S (la (av rfl)) ?_; clear S; intro a u S
 refine wp_ret ?_
 refine ret1 rfl S.s rfl ?_
 have hx6 : (rmC (rdB b) (stB b) (cB b) d).sent = (advA (rdB (⟨b.staged, b.rounds, b.states, b.round, b.back, b.seq, b.target, b.known, (Sl.mk ra_t12 rc_t12 (b.waiting.xs.filter fun y => !(y == d)))⟩ : Brn)) (stB (⟨b.staged, b.rounds, b.states, b.round, b.back, b.seq, b.target, b.known, (Sl.mk ra_t12 rc_t12 (b.waiting.xs.filter fun y => !(y == d)))⟩ : Brn)) (cB (⟨b.staged, b.rounds, b.states, b.round, b.back, b.seq, b.target, b.known, (Sl.mk ra_t12 rc_t12 (b.waiting.xs.filter fun y => !(y == d)))⟩ : Brn))).sent := by
  rfl
 rw [hx6]
 refine ⟨ra_t17, rc_t17, b_t17, rfl, (S.row 0 rfl), hk_b_t17, (S.m.o _ (nth_mem (i := 1) rfl)), ?_, S.m.c⟩
 exact ⟨⟨hq_b_t17.1.1, hq_b_t17.1.2⟩, hq_b_t17.2⟩
def recvC (R : List (List Chg)) (S : List (List Int)) (c : Ctl) (d : Int) (m : Msg) : Ctl := if m.hello = true then helloC c d m.inc else ackC R S c d m.inc m.seq
set_option maxHeartbeats 2000000 in
set_option maxRecDepth 20000 in
theorem rRecv (w : World) (F : Nat → Prop) (hF : Old F w) (b_b : Nat) (b : Brn) (M : MS [In (ow (brF b_b b))] w) (hD : ∀ k, In [In (ow (brF b_b b))] k → ¬ F k) (b_k : brK b) (b_K : (bnO (brF b_b b)).p F (In [In (ow (brF b_b b))]) w) (d : Int) (d_h : inI64 d) (m : Msg) (m_w : msgE.wf (Fr F [In (ow (brF b_b b))]) w.heap m) (ok : BrOK b ∧ 0 ≤ d ∧ d < b.target.xs.length) :
 Calls Try.prog 92 #[pT b_b 0, iI d, .agg (msgE.cells m).toArray] w fun e w' => ∃ (ra : Option Addr) (rc : Nat) (b_1 : Brn), e = .returned (.slice ra (((recvC (rdB b) (stB b) (cB b) d m).sent).length) rc) ∧ Row intE 3 0 F [abk ra, In (ow (brF b_b b_1))] w' ra rc ((recvC (rdB b) (stB b) (cB b) d m).sent) ∧ brK b_1 ∧ (bnO (brF b_b b_1)).p F (In [abk ra, In (ow (brF b_b b_1))]) w' ∧ (KeepB b b_1 ∧ cB b_1 = noS (recvC (rdB b) (stB b) (cB b) d m)) ∧ Tr [In (ow (brF b_b b))] w [abk ra, In (ow (brF b_b b_1))] w' := by
 obtain ⟨d_hl, d_hu⟩ : inI64 d := id d_h
 obtain ⟨_, _⟩ : inI64 m.inc := m_w.2.1
 obtain ⟨_, _⟩ : inI64 m.seq := m_w.2.2
 obtain ⟨ok, hd0, hd1⟩ := ok
 have hO : BrOK b := ok
 obtain ⟨PO, CO⟩ := ok
 have hPn := PO.n1
 have htn : b.target.xs.length ≤ 1000 := hPn
 have hwt : Asc b.target.xs.length b.waiting.xs := CO.wt
 have hwl := hwt.len
 have hwj : b.waiting.xs.Pairwise (· < ·) ∧ b.waiting.xs.length ≤ 1000 := ⟨hwt.1, by omega⟩
 have hw1 : b.waiting.xs.length ≤ 1000 := hwj.2
 have hkn : b.known.xs.length = b.target.xs.length := CO.kn
 refine go Try.func92 rfl 77 rfl [wfF msgE m] [bnO (brF b_b b)] hF M ⟨m_w, trivial⟩ ⟨b_K, trivial⟩ ?_
 intro a S
 refine rs0 ?_
 refine nbp S (x_box _ (S.e rfl) rfl) ?_; clear S; intro a u b5 S
 refine ens S (la (av rfl)) ?_; clear S; intro a u S
 refine wp_seq ?_
 refine rs S (tr (fldi 0 0 rfl uT141)<|la (ldk 1 sC4 rfl rfl rfl)) ?_; clear S; intro a u S
 refine cd S rfl ?_ ?_
 ·intro hc0
  refine wp_seq (wp_seq ?_)
  replace S := S.pk [1, 0] (os' := [blO b5 (msgE.cells m) 141, bnO (brF b_b b)])
  replace S := (show St _ _ _ _ _ _ [blO b5 (msgE.cells m) 141, blO b_b [bD (b.staged = true), sV b.rounds, sV b.states, iI b.round, bD (b.back = true), iI b.seq, sV b.target, sV b.known, sV b.waiting] 89, daO (slE (slE chgE)) b.rounds, daO (slE (slE intE)) b.states, daO (slE intE) b.target, daO (slE intE) b.known, daO (slE intE) b.waiting] _ _ from S.opn (ks := [blO b5 (msgE.cells m) 141]))
  replace S := S.ar (wfF (slE (slE chgE)) b.rounds) (S.da 2 rfl)
  replace S := S.ar (wfF (slE (slE intE)) b.states) (S.da 3 rfl)
  replace S := S.ar (wfF (slE intE) b.target) (S.da 4 rfl)
  replace S := S.ar (wfF (slE intE) b.known) (S.da 5 rfl)
  replace S := S.ar (wfF (slE intE) b.waiting) (S.da 6 rfl)
  replace S := S.pk [0, 1] (os' := [blO b5 (msgE.cells m) 141, blO b_b [bD (b.staged = true), sV b.rounds, sV b.states, iI b.round, bD (b.back = true), iI b.seq, sV b.target, sV b.known, sV b.waiting] 89])
  have : b.rounds.xs.length ≤ 9223372036854775807 := ((S.u 1 rfl)).1.len
  have : b.states.xs.length ≤ 9223372036854775807 := ((S.u 2 rfl)).1.len
  have : b.target.xs.length ≤ 9223372036854775807 := ((S.u 3 rfl)).1.len
  have : b.known.xs.length ≤ 9223372036854775807 := ((S.u 4 rfl)).1.len
  have : b.waiting.xs.length ≤ 9223372036854775807 := ((S.u 5 rfl)).1.len
  obtain ⟨_, _⟩ : inI64 b.round := b_k.1
  obtain ⟨_, _⟩ : inI64 b.seq := b_k.2
  obtain ⟨hl3, hu3⟩ : inI64 (b.known.xs.getD ((d).toNat) intE.dflt) := id (((S.u 4 rfl)).1.wf (d).toNat (by omega))
  refine dr (P := Try.prog) S 11 [] [(9, .is _), (10, .is _), (11, .is _), (12, .is _), (13, .is _), (14, .is _), (15, .is _), (16, .is _), (17, .is _), (18, .is _), (19, .is _)] [[], [9], [], [11], [12], [13], [14], [], [15, 16], [17], [10, 18]] [19] _ ⟨qd (fldi 0 1 rfl uT141), qd (ldk 0 sC3 rfl rfl rfl), qd (mv rfl), qd (ov fun S=>x_nilck (S.e rfl)), qd (fldi 0 3 rfl uT89), qd (fldi (0 + 3) 4 rfl uT57), qd (ldk 1 sC22 rfl rfl rfl), qd (mv rfl), qd (idxi uT22 sZ3 rfl rfl (d).toNat (by omega) (by omega) (((S.u 4 rfl)).1.adr (i := (d).toNat) (by omega))), qd (ov fun S=>x_load sC3 (S.e rfl) (((S.u 4 rfl)).1.cell (d).toNat (by omega) 0 _ rfl)), qd (leqi rfl rfl), trivial⟩ ?_
  clear S; intro a u S G hE
  obtain ⟨hl4, hu4⟩ : inI64 m.inc := id ((S.u 0 rfl).2.1)
  obtain ⟨hl5, hu5⟩ : inI64 d := id d_h
  obtain ⟨hl6, hu6⟩ : inI64 (b.known.xs.getD ((d).toNat) intE.dflt) := id (((S.u 4 rfl)).1.wf (d).toNat (by omega))
  refine ent ?_
  refine cd S rfl ?_ ?_
  ·intro hc1
   refine rs S (la (av rfl)) ?_; clear S; intro a u S
   refine wp_ret (then_r (then_r ?_))
   replace S := S.oda (E := slE (slE chgE)) (x := b.rounds) (S.u 1 rfl)
   replace S := S.oda (E := slE (slE intE)) (x := b.states) (S.u 2 rfl)
   replace S := S.oda (E := slE intE) (x := b.target) (S.u 3 rfl)
   replace S := S.oda (E := slE intE) (x := b.known) (S.u 4 rfl)
   replace S := S.oda (E := slE intE) (x := b.waiting) (S.u 5 rfl)
   have hk8 : brK b := ⟨b_k.1, b_k.2⟩
   replace S := (show St _ _ _ _ _ _ ([blO b5 (msgE.cells m) 141] ++ brF b_b b) _ _ from S).cls
   replace S := (show St _ _ _ _ _ _ [blO b5 (msgE.cells m) 141, bnO (brF b_b b)] _ _ from S)
   replace S := S.nr intE 3
   replace S := (show St _ _ _ _ _ _ [blO b5 (msgE.cells m) 141, bnO (brF b_b b), rwO intE 3 0 none 0 ([])] _ _ from S.b0 2 rfl)
   refine ret1 rfl S.s rfl ?_
   replace S := S.pk [2, 1] (os' := [rwO intE 3 0 none 0 ([]), bnO (brF b_b b)])
   have hx9 : (recvC (rdB b) (stB b) (cB b) d m).sent = [] := by
    unfold recvC helloC
    rw [if_pos hc0, if_neg (show ¬ (cB b).known.getD d.toNat 0 < m.inc from fun h => by have h2 : b.known.xs.getD d.toNat 0 < m.inc := h; have h3 : m.inc ≤ b.known.xs.getD d.toNat 0 := hc1; omega)]; rfl
   rw [hx9]
   refine ⟨none, 0, b, rfl, (S.row 0 rfl), hk8, (S.m.o _ (nth_mem (i := 1) rfl)), ?_, S.m.c⟩
   refine ⟨KeepB.refl b, ?_⟩
   unfold recvC helloC
   rw [if_pos hc0, if_neg (show ¬ (cB b).known.getD d.toNat 0 < m.inc from fun h => by have h2 : b.known.xs.getD d.toNat 0 < m.inc := h; have h3 : m.inc ≤ b.known.xs.getD d.toNat 0 := hc1; omega)]; rfl
  intro hc2
  refine wp_skip (then_n (rs0 ?_))
  refine sp S (la (mv rfl)) ?_; clear S; intro a u S
  refine nbr (q := 0) intE S [] (x_bsl0 uT22 iZ3) (fun _ h => by simp at h) ?_; clear S; intro a u b21 S
  refine sp S (tr (mv rfl)<|tr (ov fun S=>x_nilck (S.e rfl))<|tr (fldi 0 3 rfl uT89)<|tr (fldi (0 + 3) 4 rfl uT57)<|la (ldk 1 sC22 rfl rfl rfl)) ?_; clear S; intro a u S
  refine ap (E := intE) (ys := b.known.xs) S 2 rfl uT22 iZ3 rfl rfl ((S.u 4 rfl)).1 ((S.u 4 rfl)).2.2 (LAt.mem ((S.u 4 rfl)).1) ⟨by unfold maxLen; (try simp only [List.length_cons, List.length_nil, List.length_append, List.length_map]); omega, by (try simp only [List.length_cons, List.length_nil, List.length_append, List.length_map]); omega⟩ ?_; clear S; intro a u ad27 cap27 S
  have e_27 : ([] ++ b.known.xs) = b.known.xs := rfl
  rw [e_27] at S
  refine ens S (tr (ov fun S=>x_nilck (S.e rfl))<|tr (fldi 0 3 rfl uT89)<|tr (fldi (0 + 3) 4 rfl uT57)<|la (stk 1 rfl rfl rfl)) ?_; clear S; intro a u S
  refine wp_seq ?_
  refine dr (P := Try.prog) S 9 [] [(31, .is _), (32, .is _), (33, .is _), (34, .is _), (35, .is _), (36, .is _), (37, .is _), (38, .is _), (39, .is _)] [[], [31], [32], [33], [34], [], [], [37], [35, 36]] [38, 39] _ ⟨qd (mv rfl), qd (ov fun S=>x_nilck (S.e rfl)), qd (fldi 0 3 rfl uT89), qd (fldi (0 + 3) 4 rfl uT57), qd (ldk 1 sC22 rfl rfl rfl), qd (mv rfl), qd (fldi 0 1 rfl uT141), qd (ldk 0 sC3 rfl rfl rfl), qd (ov fun S=>x_idx uT22 sZ3 (S.e rfl) (S.e rfl) (d).toNat (by omega) (by omega) (row_off (S.row 2 rfl) (m := (d).toNat) (by omega))), trivial⟩ ?_
  clear S; intro a u S G hE
  refine sp S (la (str (E := intE) 2 (by kernel_rfl) rfl rfl rfl (d).toNat 0 (by omega) (by first | decide | exact Nat.one_pos | exact Nat.succ_pos _) m.inc (fun S=>(S.u 0 rfl).2.1) rfl (by first | rfl | (show _ = _ * 1 + 0; omega) | (simp [intE]; omega) | simp [intE]) rfl)) ?_; clear S; intro a u S
  have hls11 : (b.known.xs.set (d).toNat m.inc).length = b.known.xs.length := by simp
  refine ent (rs0 ?_)
  refine sp S (tr (mv rfl)<|tr (mv rfl)<|tr (ov fun S=>x_nilck (S.e rfl))<|tr (fldi 0 3 rfl uT89)<|tr (fldi (0 + 3) 5 rfl uT57)<|tr (ldk 1 sC22 rfl rfl rfl)<|la (mv rfl)) ?_; clear S; intro a u S
  refine cl S (rPut0 _ _ S.x (.nil _) b.waiting (dn0 (S.u 5 rfl)) d d_h (by assumption)) cB119 ?_
  rintro e u ⟨ra_t47, rc_t47, rfl, R_t47, T0⟩; refine ⟨_, rfl, fun a s => ?_⟩
  replace S := (S.k0 s T0).ar (wfF (slE intE) (Sl.mk ra_t47 rc_t47 (insW b.waiting.xs d))) (Enc.up _ R_t47); clear s T0 R_t47
  have hn13 : (insW b.waiting.xs d).length ≤ 9223372036854775807 := ((S.u 6 rfl)).1.len
  refine ens S (tr (ov fun S=>x_nilck (S.e rfl))<|tr (fldi 0 3 rfl uT89)<|tr (fldi (0 + 3) 5 rfl uT57)<|la (stk 1 rfl rfl rfl)) ?_; clear S; intro a u S
  refine rs0 ?_
  refine sp S (la (mv rfl)) ?_; clear S; intro a u S
  refine nbr intE S [d] (x_bs S [(0, iI d)] uT22 iZ3) (fun x hx => by simp only [List.mem_cons, List.not_mem_nil, or_false] at hx; rw [hx]; exact (show intE.wf _ _ d from d_h)) ?_; clear S; intro a u b52 S
  refine ens S (la (av rfl)) ?_; clear S; intro a u S
  refine wp_ret (then_r ?_)
  replace S := S.fz 2 rfl
  replace S := (show St _ _ _ _ _ _ [blO b5 (msgE.cells m) 141, blO b_b [bD (b.staged = true), sV b.rounds, sV b.states, iI b.round, bD (b.back = true), iI b.seq, sV b.target, .slice ad27 ((b.known.xs.set (d).toNat m.inc).length) cap27, .slice ra_t47 ((insW b.waiting.xs d).length) rc_t47] 89, noO, rwO intE 3 w.heap.size (some ⟨b52, 0, none⟩) 1 ([d])] _ _ from S.k1s 1 rfl (blO b_b [bD (b.staged = true), sV b.rounds, sV b.states, iI b.round, bD (b.back = true), iI b.seq, sV b.target, .slice ad27 ((b.known.xs.set (d).toNat m.inc).length) cap27, .slice ra_t47 ((insW b.waiting.xs d).length) rc_t47] 89) rfl S.s (Ch.refl _) (by have hb := S.k 1 rfl; simp only [blO, List.length_set, List.length_replicate]; exact hb))
  replace S := S.pk [0, 3, 1] (os' := [blO b5 (msgE.cells m) 141, rwO intE 3 w.heap.size (some ⟨b52, 0, none⟩) 1 ([d]), blO b_b [bD (b.staged = true), sV b.rounds, sV b.states, iI b.round, bD (b.back = true), iI b.seq, sV b.target, .slice ad27 ((b.known.xs.set (d).toNat m.inc).length) cap27, .slice ra_t47 ((insW b.waiting.xs d).length) rc_t47] 89])
  replace S := S.oda (E := slE (slE chgE)) (x := b.rounds) (S.u 1 rfl)
  replace S := S.oda (E := slE (slE intE)) (x := b.states) (S.u 2 rfl)
  replace S := S.oda (E := slE intE) (x := b.target) (S.u 3 rfl)
  replace S := S.oda (E := slE intE) (x := (Sl.mk ad27 cap27 (b.known.xs.set (d).toNat m.inc))) (S.u 7 rfl)
  replace S := S.oda (E := slE intE) (x := (Sl.mk ra_t47 rc_t47 (insW b.waiting.xs d))) (S.u 6 rfl)
  have hk15 : brK (⟨b.staged, b.rounds, b.states, b.round, b.back, b.seq, b.target, (Sl.mk ad27 cap27 (b.known.xs.set (d).toNat m.inc)), (Sl.mk ra_t47 rc_t47 (insW b.waiting.xs d))⟩ : Brn) := ⟨b_k.1, b_k.2⟩
  replace S := (show St _ _ _ _ _ _ ([blO b5 (msgE.cells m) 141, rwO intE 3 w.heap.size (some ⟨b52, 0, none⟩) 1 ([d])] ++ brF b_b (⟨b.staged, b.rounds, b.states, b.round, b.back, b.seq, b.target, (Sl.mk ad27 cap27 (b.known.xs.set (d).toNat m.inc)), (Sl.mk ra_t47 rc_t47 (insW b.waiting.xs d))⟩ : Brn)) _ _ from S).cls
  replace S := (show St _ _ _ _ _ _ [blO b5 (msgE.cells m) 141, rwO intE 3 w.heap.size (some ⟨b52, 0, none⟩) 1 ([d]), bnO (brF b_b (⟨b.staged, b.rounds, b.states, b.round, b.back, b.seq, b.target, (Sl.mk ad27 cap27 (b.known.xs.set (d).toNat m.inc)), (Sl.mk ra_t47 rc_t47 (insW b.waiting.xs d))⟩ : Brn))] _ _ from S)
  replace S := (show St _ _ _ _ _ _ [blO b5 (msgE.cells m) 141, rwO intE 3 0 (some ⟨b52, 0, none⟩) 1 ([d]), bnO (brF b_b (⟨b.staged, b.rounds, b.states, b.round, b.back, b.seq, b.target, (Sl.mk ad27 cap27 (b.known.xs.set (d).toNat m.inc)), (Sl.mk ra_t47 rc_t47 (insW b.waiting.xs d))⟩ : Brn))] _ _ from S.b0 1 rfl)
  refine ret1 rfl S.s rfl ?_
  replace S := S.pk [1, 2] (os' := [rwO intE 3 0 (some ⟨b52, 0, none⟩) 1 ([d]), bnO (brF b_b (⟨b.staged, b.rounds, b.states, b.round, b.back, b.seq, b.target, (Sl.mk ad27 cap27 (b.known.xs.set (d).toNat m.inc)), (Sl.mk ra_t47 rc_t47 (insW b.waiting.xs d))⟩ : Brn))])
  have hx16 : (recvC (rdB b) (stB b) (cB b) d m).sent = [d] := by
   unfold recvC helloC
   rw [if_pos hc0, if_pos (show (cB b).known.getD d.toNat 0 < m.inc from by show b.known.xs.getD d.toNat 0 < m.inc; have h3 : ¬ m.inc ≤ b.known.xs.getD d.toNat 0 := hc2; omega)]; rfl
  rw [hx16]
  refine ⟨(some ⟨b52, 0, none⟩), 1, (⟨b.staged, b.rounds, b.states, b.round, b.back, b.seq, b.target, (Sl.mk ad27 cap27 (b.known.xs.set (d).toNat m.inc)), (Sl.mk ra_t47 rc_t47 (insW b.waiting.xs d))⟩ : Brn), rfl, (S.row 0 rfl), hk15, (S.m.o _ (nth_mem (i := 1) rfl)), ?_, S.m.c⟩
  refine ⟨⟨rfl, rfl, rfl⟩, ?_⟩
  unfold recvC helloC
  rw [if_pos hc0, if_pos (show (cB b).known.getD d.toNat 0 < m.inc from by show b.known.xs.getD d.toNat 0 < m.inc; have h3 : ¬ m.inc ≤ b.known.xs.getD d.toNat 0 := hc2; omega)]; rfl
 intro hc3
 refine wp_skip (then_n (wp_seq (wp_seq ?_)))
 replace S := S.pk [1, 0] (os' := [blO b5 (msgE.cells m) 141, bnO (brF b_b b)])
 replace S := (show St _ _ _ _ _ _ [blO b5 (msgE.cells m) 141, blO b_b [bD (b.staged = true), sV b.rounds, sV b.states, iI b.round, bD (b.back = true), iI b.seq, sV b.target, sV b.known, sV b.waiting] 89, daO (slE (slE chgE)) b.rounds, daO (slE (slE intE)) b.states, daO (slE intE) b.target, daO (slE intE) b.known, daO (slE intE) b.waiting] _ _ from S.opn (ks := [blO b5 (msgE.cells m) 141]))
 replace S := S.ar (wfF (slE (slE chgE)) b.rounds) (S.da 2 rfl)
 replace S := S.ar (wfF (slE (slE intE)) b.states) (S.da 3 rfl)
 replace S := S.ar (wfF (slE intE) b.target) (S.da 4 rfl)
 replace S := S.ar (wfF (slE intE) b.known) (S.da 5 rfl)
 replace S := S.ar (wfF (slE intE) b.waiting) (S.da 6 rfl)
 replace S := S.pk [0, 1] (os' := [blO b5 (msgE.cells m) 141, blO b_b [bD (b.staged = true), sV b.rounds, sV b.states, iI b.round, bD (b.back = true), iI b.seq, sV b.target, sV b.known, sV b.waiting] 89])
 have : b.rounds.xs.length ≤ 9223372036854775807 := ((S.u 1 rfl)).1.len
 have : b.states.xs.length ≤ 9223372036854775807 := ((S.u 2 rfl)).1.len
 have : b.target.xs.length ≤ 9223372036854775807 := ((S.u 3 rfl)).1.len
 have : b.known.xs.length ≤ 9223372036854775807 := ((S.u 4 rfl)).1.len
 have : b.waiting.xs.length ≤ 9223372036854775807 := ((S.u 5 rfl)).1.len
 obtain ⟨_, _⟩ : inI64 b.round := b_k.1
 obtain ⟨_, _⟩ : inI64 b.seq := b_k.2
 obtain ⟨hl17, hu17⟩ : inI64 (b.known.xs.getD ((d).toNat) intE.dflt) := id (((S.u 4 rfl)).1.wf (d).toNat (by omega))
 refine dr (P := Try.prog) S 21 [] [(53, .is _), (54, .is _), (55, .is _), (56, .is _), (57, .is _), (58, .is _), (59, .is _), (60, .is _), (61, .is _), (62, .is _), (63, .is _), (64, .is _), (65, .is _), (66, .is _), (67, .is _), (68, .is _), (69, .is _), (70, .is _), (71, .is _), (72, .is _), (73, .is _)] [[], [53], [], [55], [56], [57], [58], [], [59, 60], [61], [54, 62], [63], [64], [64, 65], [64], [64, 67], [64, 68], [64, 69], [64, 70], [64, 66, 71], [64, 72]] [73] _ ⟨qd (fldi 0 1 rfl uT141), qd (ldk 0 sC3 rfl rfl rfl), qd (mv rfl), qd (ov fun S=>x_nilck (S.e rfl)), qd (fldi 0 3 rfl uT89), qd (fldi (0 + 3) 4 rfl uT57), qd (ldk 1 sC22 rfl rfl rfl), qd (mv rfl), qd (idxi uT22 sZ3 rfl rfl (d).toNat (by omega) (by omega) (((S.u 4 rfl)).1.adr (i := (d).toNat) (by omega))), qd (ov fun S=>x_load sC3 (S.e rfl) (((S.u 4 rfl)).1.cell (d).toNat (by omega) 0 _ rfl)), qd (neqi rfl rfl), qd (mv rfl), qd (og 64 rfl gf fun S hg=>xf (0) 2 uT141 (S.e rfl)), qd (og 64 rfl gf fun S hg=>x_load sC3 (S.p rfl hg) ((S.k 0 rfl).cell (j := 2) rfl)), qd (og 64 rfl gf fun S hg=>x_move (S.e rfl)), qd (og 64 rfl gf fun S hg=>x_nilck (S.p rfl hg)), qd (og 64 rfl gf fun S hg=>xf (0) 3 uT89 (S.p rfl hg)), qd (og 64 rfl gf fun S hg=>xf (0 + 3) 2 uT57 (S.p rfl hg)), qd (og 64 rfl gf fun S hg=>x_load sC3 (S.p rfl hg) ((S.k 1 rfl).cell (j := 5) rfl)), qd (og 64 rfl gf fun S hg=>x_neq (S.p rfl hg) (S.p rfl hg)), qd (ori rfl rfl rfl), trivial⟩ ?_
 clear S; intro a u S G hE
 obtain ⟨hl18, hu18⟩ : inI64 m.inc := id ((S.u 0 rfl).2.1)
 obtain ⟨hl19, hu19⟩ : inI64 d := id d_h
 obtain ⟨hl20, hu20⟩ : inI64 (b.known.xs.getD ((d).toNat) intE.dflt) := id (((S.u 4 rfl)).1.wf (d).toNat (by omega))
 refine ent ?_
 refine cd S rfl ?_ ?_
 ·intro hc4
  refine rs S (la (av rfl)) ?_; clear S; intro a u S
  refine wp_ret (then_r ?_)
  replace S := S.oda (E := slE (slE chgE)) (x := b.rounds) (S.u 1 rfl)
  replace S := S.oda (E := slE (slE intE)) (x := b.states) (S.u 2 rfl)
  replace S := S.oda (E := slE intE) (x := b.target) (S.u 3 rfl)
  replace S := S.oda (E := slE intE) (x := b.known) (S.u 4 rfl)
  replace S := S.oda (E := slE intE) (x := b.waiting) (S.u 5 rfl)
  have hk22 : brK b := ⟨b_k.1, b_k.2⟩
  replace S := (show St _ _ _ _ _ _ ([blO b5 (msgE.cells m) 141] ++ brF b_b b) _ _ from S).cls
  replace S := (show St _ _ _ _ _ _ [blO b5 (msgE.cells m) 141, bnO (brF b_b b)] _ _ from S)
  replace S := S.nr intE 3
  replace S := (show St _ _ _ _ _ _ [blO b5 (msgE.cells m) 141, bnO (brF b_b b), rwO intE 3 0 none 0 ([])] _ _ from S.b0 2 rfl)
  refine ret1 rfl S.s rfl ?_
  replace S := S.pk [2, 1] (os' := [rwO intE 3 0 none 0 ([]), bnO (brF b_b b)])
  have hx23 : (recvC (rdB b) (stB b) (cB b) d m).sent = [] := by
   unfold recvC ackC
   rw [if_neg hc3, if_neg (show ¬ (m.inc = (cB b).known.getD d.toNat 0 ∧ m.seq = (cB b).seq) from fun h => hc4.elim (fun q => q h.1) fun q => q h.2)]; rfl
  rw [hx23]
  refine ⟨none, 0, b, rfl, (S.row 0 rfl), hk22, (S.m.o _ (nth_mem (i := 1) rfl)), ?_, S.m.c⟩
  refine ⟨KeepB.refl b, ?_⟩
  unfold recvC ackC
  rw [if_neg hc3, if_neg (show ¬ (m.inc = (cB b).known.getD d.toNat 0 ∧ m.seq = (cB b).seq) from fun h => hc4.elim (fun q => q h.1) fun q => q h.2)]; rfl
 intro hc5
 refine wp_skip (then_n (rs0 ?_))
 refine sp S (tr (mv rfl)<|la (mv rfl)) ?_; clear S; intro a u S
 replace S := S.oda (E := slE (slE chgE)) (x := b.rounds) (S.u 1 rfl)
 replace S := S.oda (E := slE (slE intE)) (x := b.states) (S.u 2 rfl)
 replace S := S.oda (E := slE intE) (x := b.target) (S.u 3 rfl)
 replace S := S.oda (E := slE intE) (x := b.known) (S.u 4 rfl)
 replace S := S.oda (E := slE intE) (x := b.waiting) (S.u 5 rfl)
 have hk25 : brK b := ⟨b_k.1, b_k.2⟩
 replace S := (show St _ _ _ _ _ _ ([blO b5 (msgE.cells m) 141] ++ brF b_b b) _ _ from S).cls
 replace S := (show St _ _ _ _ _ _ [blO b5 (msgE.cells m) 141, bnO (brF b_b b)] _ _ from S)
 refine cl S (rSkip _ _ (S.xx (ow [bnO (brF b_b b)])) b_b b (S.mF (ks := [blO b5 (msgE.cells m) 141]) (fs := [bnO (brF b_b b)])) (S.nfF (ks := [blO b5 (msgE.cells m) 141]) (fs := [bnO (brF b_b b)]) hD) hk25 (S.dF (ks := [blO b5 (msgE.cells m) 141]) (fs := [bnO (brF b_b b)]) 0 rfl (mo_bn (mo_br _ _))) d d_h (by first | assumption | exact hOK)) cB94 ?_
 rintro e u ⟨ra_t76, rc_t76, b_t76, rfl, R_t76, hk_b_t76, hK_b_t76, hq_b_t76, T0⟩; refine ⟨_, rfl, fun a s => ?_⟩
 have S2 := S.kF (ks := [blO b5 (msgE.cells m) 141]) (fs := [bnO (brF b_b b)]) [rwO intE 3 0 ra_t76 rc_t76 ((rmC (rdB b) (stB b) (cB b) d).sent), bnO (brF b_b b_t76)] s T0 ⟨⟨R_t76.b0.own, R_t76.wf⟩, hK_b_t76, trivial⟩ ⟨mo_rw, (mo_bn (mo_br _ _)), trivial⟩
 replace S2 := (show St _ _ _ _ _ _ [blO b5 (msgE.cells m) 141, rwO intE 3 0 ra_t76 rc_t76 ((rmC (rdB b) (stB b) (cB b) d).sent), bnO (brF b_b b_t76)] _ _ from S2)
 clear S; have S := S2; clear S2 s T0 hK_b_t76 R_t76
 refine ens S (la (av rfl)) ?_; clear S; intro a u S
 refine wp_ret ?_
 refine ret1 rfl S.s rfl ?_
 replace S := S.pk [1, 2] (os' := [rwO intE 3 0 ra_t76 rc_t76 ((rmC (rdB b) (stB b) (cB b) d).sent), bnO (brF b_b b_t76)])
 have hx26 : (recvC (rdB b) (stB b) (cB b) d m).sent = (rmC (rdB b) (stB b) (cB b) d).sent := by
  unfold recvC ackC
  rw [if_neg hc3, if_pos (show m.inc = (cB b).known.getD d.toNat 0 ∧ m.seq = (cB b).seq from by obtain ⟨h1, h2⟩ := not_or.1 hc5; exact ⟨Classical.not_not.1 h1, Classical.not_not.1 h2⟩)]
 rw [hx26]
 refine ⟨ra_t76, rc_t76, b_t76, rfl, (S.row 0 rfl), hk_b_t76, (S.m.o _ (nth_mem (i := 1) rfl)), ?_, S.m.c⟩
 refine ⟨⟨hq_b_t76.1.1, hq_b_t76.1.2⟩, ?_⟩
 unfold recvC ackC
 rw [if_neg hc3, if_pos (show m.inc = (cB b).known.getD d.toNat 0 ∧ m.seq = (cB b).seq from by obtain ⟨h1, h2⟩ := not_or.1 hc5; exact ⟨Classical.not_not.1 h1, Classical.not_not.1 h2⟩)]
 exact hq_b_t76.2
end Go.Proofs.Ytobggnpnochnnaa.V
set_option linter.unusedVariables false
set_option linter.unusedSimpArgs false
namespace Go.Proofs.Ytobggnpnochnnaa.V
open Go.RowKit
theorem advO {R : List (List Chg)} {S : List (List Int)} : ∀ (f : Nat) (c : Ctl) (o : List Int), advC R S f {c with sent := o} = {advC R S f (noS c) with sent := o ++ (advC R S f (noS c)).sent}
  | 0, c, o => by
    show ({c with sent := o} : Ctl) = {c with sent := o ++ []}
    rw [List.append_nil]
  | f + 1, c, o => by
    have hz : ({c with sent := o} : Ctl) = {noS c with sent := o ++ (noS c).sent} := by
      show ({c with sent := o} : Ctl) = {c with sent := o ++ []}
      rw [List.append_nil]
    have key : ∀ r : Int, advC R S f (startC R S {({c with sent := o} : Ctl) with round := r}) = {advC R S f (startC R S {noS c with round := r}) with sent := o ++ (advC R S f (startC R S {noS c with round := r})).sent} := fun r => by
      have e1 := startO (R := R) (S := S) {c with round := r} o
      obtain ⟨X, hX⟩ : ∃ X, startC R S (noS {c with round := r}) = X := ⟨_, rfl⟩
      rw [hX] at e1
      have e2 : startC R S {noS c with round := r} = X := hX
      have e3 : startC R S {({c with sent := o} : Ctl) with round := r} = {X with sent := o ++ X.sent} := e1
      rw [e2, e3, advO f X (o ++ X.sent)]
      have e4 := advO (R := R) (S := S) f X X.sent
      have e5 : advC R S f X = {advC R S f (noS X) with sent := X.sent ++ (advC R S f (noS X)).sent} := e4
      rw [e5]
      simp [List.append_assoc]
    rw [advC, advC]
    by_cases h1 : 0 < c.waiting.length
    · rw [if_pos (show 0 < ({c with sent := o} : Ctl).waiting.length from h1), if_pos (show 0 < (noS c).waiting.length from h1)]; exact hz
    · rw [if_neg (show ¬ 0 < ({c with sent := o} : Ctl).waiting.length from h1), if_neg (show ¬ 0 < (noS c).waiting.length from h1)]
      by_cases h2 : c.back = true ∧ 0 ≤ c.round
      · rw [if_pos (show ({c with sent := o} : Ctl).back = true ∧ 0 ≤ ({c with sent := o} : Ctl).round from h2), if_pos (show (noS c).back = true ∧ 0 ≤ (noS c).round from h2)]
        exact key _
      · rw [if_neg (show ¬ (({c with sent := o} : Ctl).back = true ∧ 0 ≤ ({c with sent := o} : Ctl).round) from h2), if_neg (show ¬ ((noS c).back = true ∧ 0 ≤ (noS c).round) from h2)]
        by_cases h3 : ¬ c.back = true ∧ c.round < R.length
        · rw [if_pos (show ¬ ({c with sent := o} : Ctl).back = true ∧ ({c with sent := o} : Ctl).round < R.length from h3), if_pos (show ¬ (noS c).back = true ∧ (noS c).round < R.length from h3)]
          exact key _
        · rw [if_neg (show ¬ (¬ ({c with sent := o} : Ctl).back = true ∧ ({c with sent := o} : Ctl).round < R.length) from h3), if_neg (show ¬ (¬ (noS c).back = true ∧ (noS c).round < R.length) from h3)]
          exact hz
theorem abort_one {R : List (List Chg)} {S : List (List Int)} {c c3 : Ctl} {o2 : List Int} (hb : ¬ c.back = true) (e : c3 = noS (startC R S {c with back := true})) (eo : o2 = (startC R S {c with back := true}).sent) :
    (abortC R S c).sent = o2 ++ (advA R S c3).sent ∧ noS (abortC R S c) = noS (advA R S c3) := by
  obtain ⟨X, hX⟩ : ∃ X, startC R S {c with back := true} = X := ⟨_, rfl⟩
  rw [hX] at e eo
  unfold abortC
  rw [if_neg hb, hX, e, eo]
  have e4 : advA R S X = {advA R S (noS X) with sent := X.sent ++ (advA R S (noS X)).sent} := advO 40 X X.sent
  constructor
  · rw [e4]
  · rw [e4]; rfl
end Go.Proofs.Ytobggnpnochnnaa.V
namespace Go.Proofs.Ytobggnpnochnnaa.V
open Go.RowKit Go.Proofs.Ytobggnpnochnnaa
set_option linter.unusedVariables false
set_option linter.unusedSimpArgs false
set_option maxHeartbeats 2000000 in
set_option maxRecDepth 20000 in
theorem rAbort (w : World) (F : Nat → Prop) (hF : Old F w) (b_b : Nat) (b : Brn) (M : MS [In (ow (brF b_b b))] w) (hD : ∀ k, In [In (ow (brF b_b b))] k → ¬ F k) (b_k : brK b) (b_K : (bnO (brF b_b b)).p F (In [In (ow (brF b_b b))]) w) (ok : BrOK b) :
 Calls Try.prog 95 #[pT b_b 0] w fun e w' => ∃ (ra : Option Addr) (rc : Nat) (b_1 : Brn), e = .returned (.slice ra (((abortC (rdB b) (stB b) (cB b)).sent).length) rc) ∧ Row intE 3 0 F [abk ra, In (ow (brF b_b b_1))] w' ra rc ((abortC (rdB b) (stB b) (cB b)).sent) ∧ brK b_1 ∧ (bnO (brF b_b b_1)).p F (In [abk ra, In (ow (brF b_b b_1))]) w' ∧ (KeepB b b_1 ∧ cB b_1 = noS (abortC (rdB b) (stB b) (cB b))) ∧ Tr [In (ow (brF b_b b))] w [abk ra, In (ow (brF b_b b_1))] w' := by
 have hO : BrOK b := ok
 obtain ⟨PO, CO⟩ := ok
 have hPn := PO.n1
 have htn : b.target.xs.length ≤ 1000 := hPn
 have hwt : Asc b.target.xs.length b.waiting.xs := CO.wt
 have hwl := hwt.len
 have hwj : b.waiting.xs.Pairwise (· < ·) ∧ b.waiting.xs.length ≤ 1000 := ⟨hwt.1, by omega⟩
 have hw1 : b.waiting.xs.length ≤ 1000 := hwj.2
 have hkn : b.known.xs.length = b.target.xs.length := CO.kn
 refine go Try.func95 rfl 31 rfl [] [bnO (brF b_b b)] hF M trivial ⟨b_K, trivial⟩ ?_
 intro a S
 refine rs S (la (av rfl)) ?_; clear S; intro a u S
 refine wp_seq (rs0 ?_)
 refine sp S (tr (mv rfl)<|la (ov fun S=>x_nilck (S.e rfl))) ?_; clear S; intro a u S
 replace S := (show St _ _ _ _ _ _ [blO b_b [bD (b.staged = true), sV b.rounds, sV b.states, iI b.round, bD (b.back = true), iI b.seq, sV b.target, sV b.known, sV b.waiting] 89, daO (slE (slE chgE)) b.rounds, daO (slE (slE intE)) b.states, daO (slE intE) b.target, daO (slE intE) b.known, daO (slE intE) b.waiting] _ _ from S.opn (ks := []))
 replace S := S.ar (wfF (slE (slE chgE)) b.rounds) (S.da 1 rfl)
 replace S := S.ar (wfF (slE (slE intE)) b.states) (S.da 2 rfl)
 replace S := S.ar (wfF (slE intE) b.target) (S.da 3 rfl)
 replace S := S.ar (wfF (slE intE) b.known) (S.da 4 rfl)
 replace S := S.ar (wfF (slE intE) b.waiting) (S.da 5 rfl)
 replace S := S.pk [0] (os' := [blO b_b [bD (b.staged = true), sV b.rounds, sV b.states, iI b.round, bD (b.back = true), iI b.seq, sV b.target, sV b.known, sV b.waiting] 89])
 have : b.rounds.xs.length ≤ 9223372036854775807 := ((S.u 0 rfl)).1.len
 have : b.states.xs.length ≤ 9223372036854775807 := ((S.u 1 rfl)).1.len
 have : b.target.xs.length ≤ 9223372036854775807 := ((S.u 2 rfl)).1.len
 have : b.known.xs.length ≤ 9223372036854775807 := ((S.u 3 rfl)).1.len
 have : b.waiting.xs.length ≤ 9223372036854775807 := ((S.u 4 rfl)).1.len
 obtain ⟨_, _⟩ : inI64 b.round := b_k.1
 obtain ⟨_, _⟩ : inI64 b.seq := b_k.2
 refine ens S (tr (fldi 0 3 rfl uT89)<|tr (fldi (0 + 3) 1 rfl uT57)<|la (ldk 0 sC4 rfl rfl rfl)) ?_; clear S; intro a u S
 refine cd S rfl ?_ ?_
 ·intro hc0
  refine rs S (la (av rfl)) ?_; clear S; intro a u S
  refine wp_ret (then_r ?_)
  replace S := S.oda (E := slE (slE chgE)) (x := b.rounds) (S.u 0 rfl)
  replace S := S.oda (E := slE (slE intE)) (x := b.states) (S.u 1 rfl)
  replace S := S.oda (E := slE intE) (x := b.target) (S.u 2 rfl)
  replace S := S.oda (E := slE intE) (x := b.known) (S.u 3 rfl)
  replace S := S.oda (E := slE intE) (x := b.waiting) (S.u 4 rfl)
  have hk4 : brK b := ⟨b_k.1, b_k.2⟩
  replace S := (show St _ _ _ _ _ _ ([] ++ brF b_b b) _ _ from S).cls
  replace S := (show St _ _ _ _ _ _ [bnO (brF b_b b)] _ _ from S)
  replace S := S.nr intE 3
  replace S := (show St _ _ _ _ _ _ [bnO (brF b_b b), rwO intE 3 0 none 0 ([])] _ _ from S.b0 1 rfl)
  refine ret1 rfl S.s rfl ?_
  replace S := S.pk [1, 0] (os' := [rwO intE 3 0 none 0 ([]), bnO (brF b_b b)])
  have hx5 : (abortC (rdB b) (stB b) (cB b)).sent = [] := by
   unfold abortC
   rw [if_pos (show (cB b).back = true from hc0)]; rfl
  rw [hx5]
  refine ⟨none, 0, b, rfl, (S.row 0 rfl), hk4, (S.m.o _ (nth_mem (i := 1) rfl)), ?_, S.m.c⟩
  refine ⟨KeepB.refl b, ?_⟩
  unfold abortC
  rw [if_pos (show (cB b).back = true from hc0)]; rfl
 intro hc1
 have hO2 : BrOK {b with back := true} := machOK_of hO ⟨rfl, rfl⟩ (CO.bk hc1)
 have hOK := hO2
 have hAb := abort_ok PO CO hc1
 have hR0 : 0 ≤ b.round := (CO.sq.2.1 (show (cB b).back = false from by cases hq : b.back with | false => exact hq | true => exact absurd hq hc1)).2
 have hrl : (rdB b).length = b.rounds.xs.length := rds_len (mB b)
 have hab1 : (startC (rdB b) (stB b) {cB b with back := true}).sent.length ≤ 1000 := hAb.2
 refine wp_skip (then_n ?_)
 refine rs S (tr (mv rfl)<|tr (ov fun S=>x_nilck (S.e rfl))<|tr (fldi 0 3 rfl uT89)<|tr (fldi (0 + 3) 1 rfl uT57)<|la (stk 0 rfl rfl rfl)) ?_; clear S; intro a u S
 refine rs S (la (av rfl)) ?_; clear S; intro a u S
 refine wp_seq (wp_seq ?_)
 have hn8 : b.rounds.xs.length ≤ 9223372036854775807 := ((S.u 0 rfl)).1.len
 refine dr (P := Try.prog) S 12 [] [(13, .is _), (14, .is _), (15, .is _), (16, .is _), (17, .is _), (18, .is _), (19, .is _), (20, .is _), (21, .is _), (22, .is _), (23, .is _), (24, .is _)] [[], [13], [14], [15], [16], [], [18], [19], [20], [21], [22], [17, 23]] [24] _ ⟨qd (mv rfl), qd (ov fun S=>x_nilck (S.e rfl)), qd (fldi 0 3 rfl uT89), qd (fldi (0 + 3) 0 rfl uT57), qd (ldk 0 sC3 rfl rfl rfl), qd (mv rfl), qd (ov fun S=>x_nilck (S.e rfl)), qd (fldi 0 0 rfl uT89), qd (fldi (0 + 0) 1 rfl uT47), qd (ldk 0 sC45 rfl rfl rfl), qd (leni uT45 rfl), qd (lssi rfl rfl), trivial⟩ ?_
 clear S; intro a u S G hE
 obtain ⟨hl9, hu9⟩ : inI64 b.round := id b_k.1
 refine ent ?_
 refine cd S rfl ?_ ?_
 ·intro hc2
  refine r0 ?_
  refine sp S (la (mv rfl)) ?_; clear S; intro a u S
  replace S := S.oda (E := slE (slE chgE)) (x := b.rounds) (S.u 0 rfl)
  replace S := S.oda (E := slE (slE intE)) (x := b.states) (S.u 1 rfl)
  replace S := S.oda (E := slE intE) (x := b.target) (S.u 2 rfl)
  replace S := S.oda (E := slE intE) (x := b.known) (S.u 3 rfl)
  replace S := S.oda (E := slE intE) (x := b.waiting) (S.u 4 rfl)
  have hk11 : brK (⟨b.staged, b.rounds, b.states, b.round, true, b.seq, b.target, b.known, b.waiting⟩ : Brn) := ⟨b_k.1, b_k.2⟩
  replace S := (show St _ _ _ _ _ _ ([] ++ brF b_b (⟨b.staged, b.rounds, b.states, b.round, true, b.seq, b.target, b.known, b.waiting⟩ : Brn)) _ _ from S).cls
  replace S := (show St _ _ _ _ _ _ [bnO (brF b_b (⟨b.staged, b.rounds, b.states, b.round, true, b.seq, b.target, b.known, b.waiting⟩ : Brn))] _ _ from S)
  obtain ⟨y12, hy12⟩ : ∃ y : Brn, (⟨b.staged, b.rounds, b.states, b.round, true, b.seq, b.target, b.known, b.waiting⟩ : Brn) = y := ⟨_, rfl⟩; rw [hy12] at S hk11
  refine cl S (rStart _ _ (S.xx (ow [bnO (brF b_b y12)])) b_b y12 (S.mF (ks := []) (fs := [bnO (brF b_b y12)])) (S.nfF (ks := []) (fs := [bnO (brF b_b y12)]) hD) hk11 (S.dF (ks := []) (fs := [bnO (brF b_b y12)]) 0 rfl (mo_bn (mo_br _ _))) (by subst hy12; exact (⟨by first | assumption | exact hOK, by first | omega | (dsimp only; omega), by first | omega | (dsimp only; omega)⟩))) cB109 ?_
  rintro e u ⟨ra_t26, rc_t26, b_t26, rfl, R_t26, hk_b_t26, hK_b_t26, hq_b_t26, T0⟩; refine ⟨_, rfl, fun a s => ?_⟩
  have S2 := S.kF (ks := []) (fs := [bnO (brF b_b y12)]) [rwO intE 3 0 ra_t26 rc_t26 ((startC (rdB y12) (stB y12) (cB y12)).sent), bnO (brF b_b b_t26)] s T0 ⟨⟨R_t26.b0.own, R_t26.wf⟩, hK_b_t26, trivial⟩ ⟨mo_rw, (mo_bn (mo_br _ _)), trivial⟩
  replace S2 := (show St _ _ _ _ _ _ [rwO intE 3 0 ra_t26 rc_t26 ((startC (rdB y12) (stB y12) (cB y12)).sent), bnO (brF b_b b_t26)] _ _ from S2)
  clear S; have S := S2; clear S2 s T0 hK_b_t26 R_t26
  subst hy12
  have hs26 : ((startC (rdB (⟨b.staged, b.rounds, b.states, b.round, true, b.seq, b.target, b.known, b.waiting⟩ : Brn)) (stB (⟨b.staged, b.rounds, b.states, b.round, true, b.seq, b.target, b.known, b.waiting⟩ : Brn)) (cB (⟨b.staged, b.rounds, b.states, b.round, true, b.seq, b.target, b.known, b.waiting⟩ : Brn))).sent).length ≤ 1000 := hab1
  have hOK : BrOK b_t26 := machOK_of hO ⟨hq_b_t26.1.2.1, hq_b_t26.1.2.2⟩ (by show CtlOK _ _ (cB b_t26); rw [hq_b_t26.2]; exact hAb.1.sent [])
  have hone := abort_one (R := rdB b) (S := stB b) (c := cB b) (c3 := cB b_t26) (show ¬ (cB b).back = true from hc1) hq_b_t26.2 rfl
  refine ens S (la (av rfl)) ?_; clear S; intro a u S
  refine rs0 ?_
  refine sp S (tr (mv rfl)<|la (mv rfl)) ?_; clear S; intro a u S
  refine cl S (rAdv _ _ (S.xx (ow [bnO (brF b_b b_t26)])) b_b b_t26 (S.mF (ks := [rwO intE 3 0 ra_t26 rc_t26 ((startC (rdB (⟨b.staged, b.rounds, b.states, b.round, true, b.seq, b.target, b.known, b.waiting⟩ : Brn)) (stB (⟨b.staged, b.rounds, b.states, b.round, true, b.seq, b.target, b.known, b.waiting⟩ : Brn)) (cB (⟨b.staged, b.rounds, b.states, b.round, true, b.seq, b.target, b.known, b.waiting⟩ : Brn))).sent)]) (fs := [bnO (brF b_b b_t26)])) (S.nfF (ks := [rwO intE 3 0 ra_t26 rc_t26 ((startC (rdB (⟨b.staged, b.rounds, b.states, b.round, true, b.seq, b.target, b.known, b.waiting⟩ : Brn)) (stB (⟨b.staged, b.rounds, b.states, b.round, true, b.seq, b.target, b.known, b.waiting⟩ : Brn)) (cB (⟨b.staged, b.rounds, b.states, b.round, true, b.seq, b.target, b.known, b.waiting⟩ : Brn))).sent)]) (fs := [bnO (brF b_b b_t26)]) hD) hk_b_t26 (S.dF (ks := [rwO intE 3 0 ra_t26 rc_t26 ((startC (rdB (⟨b.staged, b.rounds, b.states, b.round, true, b.seq, b.target, b.known, b.waiting⟩ : Brn)) (stB (⟨b.staged, b.rounds, b.states, b.round, true, b.seq, b.target, b.known, b.waiting⟩ : Brn)) (cB (⟨b.staged, b.rounds, b.states, b.round, true, b.seq, b.target, b.known, b.waiting⟩ : Brn))).sent)]) (fs := [bnO (brF b_b b_t26)]) 0 rfl (mo_bn (mo_br _ _))) (by first | assumption | exact hOK)) cB121 ?_
  rintro e u ⟨ra_t29, rc_t29, b_t29, rfl, R_t29, hk_b_t29, hK_b_t29, hq_b_t29, T0⟩; refine ⟨_, rfl, fun a s => ?_⟩
  have S2 := S.kF (ks := [rwO intE 3 0 ra_t26 rc_t26 ((startC (rdB (⟨b.staged, b.rounds, b.states, b.round, true, b.seq, b.target, b.known, b.waiting⟩ : Brn)) (stB (⟨b.staged, b.rounds, b.states, b.round, true, b.seq, b.target, b.known, b.waiting⟩ : Brn)) (cB (⟨b.staged, b.rounds, b.states, b.round, true, b.seq, b.target, b.known, b.waiting⟩ : Brn))).sent)]) (fs := [bnO (brF b_b b_t26)]) [rwO intE 3 0 ra_t29 rc_t29 ((advA (rdB b_t26) (stB b_t26) (cB b_t26)).sent), bnO (brF b_b b_t29)] s T0 ⟨⟨R_t29.b0.own, R_t29.wf⟩, hK_b_t29, trivial⟩ ⟨mo_rw, (mo_bn (mo_br _ _)), trivial⟩
  replace S2 := (show St _ _ _ _ _ _ [rwO intE 3 0 ra_t26 rc_t26 ((startC (rdB (⟨b.staged, b.rounds, b.states, b.round, true, b.seq, b.target, b.known, b.waiting⟩ : Brn)) (stB (⟨b.staged, b.rounds, b.states, b.round, true, b.seq, b.target, b.known, b.waiting⟩ : Brn)) (cB (⟨b.staged, b.rounds, b.states, b.round, true, b.seq, b.target, b.known, b.waiting⟩ : Brn))).sent), rwO intE 3 0 ra_t29 rc_t29 ((advA (rdB b_t26) (stB b_t26) (cB b_t26)).sent), bnO (brF b_b b_t29)] _ _ from S2)
  clear S; have S := S2; clear S2 s T0 hK_b_t29 R_t29
  have hs29 : ((advA (rdB b_t26) (stB b_t26) (cB b_t26)).sent).length ≤ 40000 := (advA_ok hOK.1 hOK.2).2.1
  refine ap (E := intE) (ys := (advA (rdB b_t26) (stB b_t26) (cB b_t26)).sent) S 0 rfl uT22 iZ3 rfl rfl ((S.row 1 rfl).lat (by first | decide | exact Nat.one_pos | exact Nat.succ_pos _)) (S.row 1 rfl).cap_le.2 (S.row 1 rfl).wf ⟨by unfold maxLen; (try simp only [List.length_cons, List.length_nil, List.length_append, List.length_map]); omega, by (try simp only [List.length_cons, List.length_nil, List.length_append, List.length_map]); omega⟩ ?_; clear S; intro a u ad30 cap30 S
  refine ens S (la (av rfl)) ?_; clear S; intro a u S
  refine wp_ret ?_
  refine ret1 rfl S.s rfl ?_
  replace S := S.pk [0, 2] (os' := [rwO intE 3 0 ad30 cap30 ((startC (rdB (⟨b.staged, b.rounds, b.states, b.round, true, b.seq, b.target, b.known, b.waiting⟩ : Brn)) (stB (⟨b.staged, b.rounds, b.states, b.round, true, b.seq, b.target, b.known, b.waiting⟩ : Brn)) (cB (⟨b.staged, b.rounds, b.states, b.round, true, b.seq, b.target, b.known, b.waiting⟩ : Brn))).sent ++ (advA (rdB b_t26) (stB b_t26) (cB b_t26)).sent), bnO (brF b_b b_t29)])
  have hx14 : (abortC (rdB b) (stB b) (cB b)).sent = ((startC (rdB (⟨b.staged, b.rounds, b.states, b.round, true, b.seq, b.target, b.known, b.waiting⟩ : Brn)) (stB (⟨b.staged, b.rounds, b.states, b.round, true, b.seq, b.target, b.known, b.waiting⟩ : Brn)) (cB (⟨b.staged, b.rounds, b.states, b.round, true, b.seq, b.target, b.known, b.waiting⟩ : Brn))).sent ++ (advA (rdB b_t26) (stB b_t26) (cB b_t26)).sent) := by
   have hk : KeepB b b_t26 := ⟨hq_b_t26.1.1, hq_b_t26.1.2⟩
   rw [keepB_rd hk, keepB_st hk]
   exact hone.1
  rw [hx14]
  refine ⟨ad30, cap30, b_t29, rfl, (S.row 0 rfl), hk_b_t29, (S.m.o _ (nth_mem (i := 1) rfl)), ?_, S.m.c⟩
  have hk : KeepB b b_t26 := ⟨hq_b_t26.1.1, hq_b_t26.1.2⟩
  exact ⟨hk.trans ⟨hq_b_t29.1.1, hq_b_t29.1.2⟩, by rw [hq_b_t29.2, keepB_rd hk, keepB_st hk]; exact hone.2.symm⟩
 intro hc3
 have hout : (startC (rdB b) (stB b) {cB b with back := true}) = {cB b with back := true} := startC_out (by show b.round < 0 ∨ ((rdB b).length : Int) ≤ b.round; omega)
 have hone := abort_one (R := rdB b) (S := stB b) (c := cB b) (c3 := cB {b with back := true}) (o2 := []) (show ¬ (cB b).back = true from hc1) (by rw [hout]; rfl) (by rw [hout]; rfl)
 refine wp_skip (then_n (rs0 ?_))
 refine sp S (tr (mv rfl)<|la (mv rfl)) ?_; clear S; intro a u S
 replace S := S.oda (E := slE (slE chgE)) (x := b.rounds) (S.u 0 rfl)
 replace S := S.oda (E := slE (slE intE)) (x := b.states) (S.u 1 rfl)
 replace S := S.oda (E := slE intE) (x := b.target) (S.u 2 rfl)
 replace S := S.oda (E := slE intE) (x := b.known) (S.u 3 rfl)
 replace S := S.oda (E := slE intE) (x := b.waiting) (S.u 4 rfl)
 have hk16 : brK (⟨b.staged, b.rounds, b.states, b.round, true, b.seq, b.target, b.known, b.waiting⟩ : Brn) := ⟨b_k.1, b_k.2⟩
 replace S := (show St _ _ _ _ _ _ ([] ++ brF b_b (⟨b.staged, b.rounds, b.states, b.round, true, b.seq, b.target, b.known, b.waiting⟩ : Brn)) _ _ from S).cls
 replace S := (show St _ _ _ _ _ _ [bnO (brF b_b (⟨b.staged, b.rounds, b.states, b.round, true, b.seq, b.target, b.known, b.waiting⟩ : Brn))] _ _ from S)
 obtain ⟨y17, hy17⟩ : ∃ y : Brn, (⟨b.staged, b.rounds, b.states, b.round, true, b.seq, b.target, b.known, b.waiting⟩ : Brn) = y := ⟨_, rfl⟩; rw [hy17] at S hk16
 refine cl S (rAdv _ _ (S.xx (ow [bnO (brF b_b y17)])) b_b y17 (S.mF (ks := []) (fs := [bnO (brF b_b y17)])) (S.nfF (ks := []) (fs := [bnO (brF b_b y17)]) hD) hk16 (S.dF (ks := []) (fs := [bnO (brF b_b y17)]) 0 rfl (mo_bn (mo_br _ _))) (by subst hy17; exact (by first | assumption | exact hOK))) cB121 ?_
 rintro e u ⟨ra_t29, rc_t29, b_t29, rfl, R_t29, hk_b_t29, hK_b_t29, hq_b_t29, T0⟩; refine ⟨_, rfl, fun a s => ?_⟩
 have S2 := S.kF (ks := []) (fs := [bnO (brF b_b y17)]) [rwO intE 3 0 ra_t29 rc_t29 ((advA (rdB y17) (stB y17) (cB y17)).sent), bnO (brF b_b b_t29)] s T0 ⟨⟨R_t29.b0.own, R_t29.wf⟩, hK_b_t29, trivial⟩ ⟨mo_rw, (mo_bn (mo_br _ _)), trivial⟩
 replace S2 := (show St _ _ _ _ _ _ [rwO intE 3 0 ra_t29 rc_t29 ((advA (rdB y17) (stB y17) (cB y17)).sent), bnO (brF b_b b_t29)] _ _ from S2)
 clear S; have S := S2; clear S2 s T0 hK_b_t29 R_t29
 subst hy17
 have hs29 : ((advA (rdB (⟨b.staged, b.rounds, b.states, b.round, true, b.seq, b.target, b.known, b.waiting⟩ : Brn)) (stB (⟨b.staged, b.rounds, b.states, b.round, true, b.seq, b.target, b.known, b.waiting⟩ : Brn)) (cB (⟨b.staged, b.rounds, b.states, b.round, true, b.seq, b.target, b.known, b.waiting⟩ : Brn))).sent).length ≤ 40000 := (advA_ok hOK.1 hOK.2).2.1
 replace S := S.nr intE 3
 refine ap (E := intE) (ys := (advA (rdB (⟨b.staged, b.rounds, b.states, b.round, true, b.seq, b.target, b.known, b.waiting⟩ : Brn)) (stB (⟨b.staged, b.rounds, b.states, b.round, true, b.seq, b.target, b.known, b.waiting⟩ : Brn)) (cB (⟨b.staged, b.rounds, b.states, b.round, true, b.seq, b.target, b.known, b.waiting⟩ : Brn))).sent) S 2 rfl uT22 iZ3 rfl rfl ((S.row 0 rfl).lat (by first | decide | exact Nat.one_pos | exact Nat.succ_pos _)) (S.row 0 rfl).cap_le.2 (S.row 0 rfl).wf ⟨by unfold maxLen; (try simp only [List.length_cons, List.length_nil, List.length_append, List.length_map]); omega, by (try simp only [List.length_cons, List.length_nil, List.length_append, List.length_map]); omega⟩ ?_; clear S; intro a u ad30 cap30 S
 refine ens S (la (av rfl)) ?_; clear S; intro a u S
 refine wp_ret ?_
 replace S := (show St _ _ _ _ _ _ [rwO intE 3 0 ra_t29 rc_t29 ((advA (rdB (⟨b.staged, b.rounds, b.states, b.round, true, b.seq, b.target, b.known, b.waiting⟩ : Brn)) (stB (⟨b.staged, b.rounds, b.states, b.round, true, b.seq, b.target, b.known, b.waiting⟩ : Brn)) (cB (⟨b.staged, b.rounds, b.states, b.round, true, b.seq, b.target, b.known, b.waiting⟩ : Brn))).sent), bnO (brF b_b b_t29), rwO intE 3 0 ad30 cap30 ([] ++ (advA (rdB (⟨b.staged, b.rounds, b.states, b.round, true, b.seq, b.target, b.known, b.waiting⟩ : Brn)) (stB (⟨b.staged, b.rounds, b.states, b.round, true, b.seq, b.target, b.known, b.waiting⟩ : Brn)) (cB (⟨b.staged, b.rounds, b.states, b.round, true, b.seq, b.target, b.known, b.waiting⟩ : Brn))).sent)] _ _ from S.b0 2 rfl)
 refine ret1 rfl S.s rfl ?_
 replace S := S.pk [2, 1] (os' := [rwO intE 3 0 ad30 cap30 ([] ++ (advA (rdB (⟨b.staged, b.rounds, b.states, b.round, true, b.seq, b.target, b.known, b.waiting⟩ : Brn)) (stB (⟨b.staged, b.rounds, b.states, b.round, true, b.seq, b.target, b.known, b.waiting⟩ : Brn)) (cB (⟨b.staged, b.rounds, b.states, b.round, true, b.seq, b.target, b.known, b.waiting⟩ : Brn))).sent), bnO (brF b_b b_t29)])
 have hx18 : (abortC (rdB b) (stB b) (cB b)).sent = ([] ++ (advA (rdB (⟨b.staged, b.rounds, b.states, b.round, true, b.seq, b.target, b.known, b.waiting⟩ : Brn)) (stB (⟨b.staged, b.rounds, b.states, b.round, true, b.seq, b.target, b.known, b.waiting⟩ : Brn)) (cB (⟨b.staged, b.rounds, b.states, b.round, true, b.seq, b.target, b.known, b.waiting⟩ : Brn))).sent) := by
  exact hone.1
 rw [hx18]
 refine ⟨ad30, cap30, b_t29, rfl, (S.row 0 rfl), hk_b_t29, (S.m.o _ (nth_mem (i := 1) rfl)), ?_, S.m.c⟩
 exact ⟨⟨hq_b_t29.1.1, hq_b_t29.1.2⟩, hq_b_t29.2.trans hone.2.symm⟩
set_option maxHeartbeats 2000000 in
set_option maxRecDepth 20000 in
theorem rStep (w : World) (F : Nat → Prop) (hF : Old F w) (b_b : Nat) (b : Brn) (M : MS [In (ow (brF b_b b))] w) (hD : ∀ k, In [In (ow (brF b_b b))] k → ¬ F k) (b_k : brK b) (b_K : (bnO (brF b_b b)).p F (In [In (ow (brF b_b b))]) w) (r : Rec) (r_w : recE.wf (Fr F [In (ow (brF b_b b))]) w.heap r) (ok : BrOK b ∧ 0 ≤ r.dev ∧ r.dev < b.target.xs.length) :
 Calls Try.prog 75 #[pT b_b 0, .agg (recE.cells r).toArray] w fun e w' => ∃ (b_1 : Brn), e = .returned (.tuple #[]) ∧ brK b_1 ∧ (bnO (brF b_b b_1)).p F (In [In (ow (brF b_b b_1))]) w' ∧ (KeepB b b_1 ∧ cB b_1 = stepJ (rdB b) (stB b) (cB b) r) ∧ Tr [In (ow (brF b_b b))] w [In (ow (brF b_b b_1))] w' := by
 obtain ⟨_, _⟩ : inI64 r.kind := r_w.1
 obtain ⟨_, _⟩ : inI64 r.dev := r_w.2.1
 obtain ⟨_, _⟩ : inI64 r.inc := r_w.2.2.1
 obtain ⟨_, _⟩ : inI64 r.seq := r_w.2.2.2
 obtain ⟨hOK, hd0, hd1⟩ := ok
 refine go Try.func75 rfl 36 rfl [wfF recE r] [bnO (brF b_b b)] hF M ⟨r_w, trivial⟩ ⟨b_K, trivial⟩ ?_
 intro a S
 refine rs0 ?_
 refine nbp S (x_box _ (S.e rfl) rfl) ?_; clear S; intro a u b3 S
 refine ent ?_
 refine rs S (tr (fldi 0 0 rfl uT24)<|la (ldk 1 sC3 rfl rfl rfl)) ?_; clear S; intro a u S
 refine wp_block ?_
 refine rs S (tr (eqli rfl rfl)<|la (av rfl)) ?_; clear S; intro a u S
 refine cd S rfl ?_ ?_
 ·intro hc0
  refine r0 ?_
  refine sp S (tr (mv rfl)<|tr (fldi 0 1 rfl uT24)<|tr (ldk 1 sC3 rfl rfl rfl)<|tr (fldi 0 2 rfl uT24)<|tr (ldk 1 sC3 rfl rfl rfl)<|tr (fldi 0 3 rfl uT24)<|tr (ldk 1 sC3 rfl rfl rfl)<|la (ov fun S=>x_bd S [(1, iI r.inc), (2, iI r.seq)] [.bool false, iI r.inc, iI r.seq])) ?_; clear S; intro a u S
  replace S := S.pk [1, 0] (os' := [blO b3 (recE.cells r) 24, bnO (brF b_b b)])
  refine cl S (rRecv _ _ (S.xx (ow [bnO (brF b_b b)])) b_b b (S.mF (ks := [blO b3 (recE.cells r) 24]) (fs := [bnO (brF b_b b)])) (S.nfF (ks := [blO b3 (recE.cells r) 24]) (fs := [bnO (brF b_b b)]) hD) b_k (S.dF (ks := [blO b3 (recE.cells r) 24]) (fs := [bnO (brF b_b b)]) 0 rfl (mo_bn (mo_br _ _))) r.dev (S.u 0 rfl).2.1 (⟨false, r.inc, r.seq⟩ : Msg) ⟨trivial, (S.u 0 rfl).2.2.1, (S.u 0 rfl).2.2.2⟩ (⟨by first | assumption | exact hOK, by first | omega | (dsimp only; omega), by first | omega | (dsimp only; omega)⟩)) cB92 ?_
  rintro e u ⟨ra_t16, rc_t16, b_t16, rfl, R_t16, hk_b_t16, hK_b_t16, hq_b_t16, T0⟩; refine ⟨_, rfl, fun a s => ?_⟩
  have S2 := S.kF (ks := [blO b3 (recE.cells r) 24]) (fs := [bnO (brF b_b b)]) [rwO intE 3 0 ra_t16 rc_t16 ((recvC (rdB b) (stB b) (cB b) r.dev (⟨false, r.inc, r.seq⟩ : Msg)).sent), bnO (brF b_b b_t16)] s T0 ⟨⟨R_t16.b0.own, R_t16.wf⟩, hK_b_t16, trivial⟩ ⟨mo_rw, (mo_bn (mo_br _ _)), trivial⟩
  replace S2 := (show St _ _ _ _ _ _ [blO b3 (recE.cells r) 24, rwO intE 3 0 ra_t16 rc_t16 ((recvC (rdB b) (stB b) (cB b) r.dev (⟨false, r.inc, r.seq⟩ : Msg)).sent), bnO (brF b_b b_t16)] _ _ from S2)
  clear S; have S := S2; clear S2 s T0 hK_b_t16 R_t16
  refine nn (blk_n ?_)
  refine end0 rfl S.s ?_
  replace S := S.pk [2] (os' := [bnO (brF b_b b_t16)])
  refine ⟨b_t16, rfl, hk_b_t16, (S.m.o _ (nth_mem (i := 0) rfl)), ?_, S.m.c⟩
  refine ⟨⟨hq_b_t16.1.1, hq_b_t16.1.2⟩, hq_b_t16.2.trans ?_⟩
  have h1 : stepK (rdB b) (stB b) (cB b) r = ackC (rdB b) (stB b) (cB b) r.dev r.inc r.seq := by unfold stepK; rw [if_pos (by assumption)]
  unfold stepJ; rw [h1]; rfl
 intro hc1
 refine rs S (tr (eqli rfl rfl)<|la (av rfl)) ?_; clear S; intro a u S
 refine cd S rfl ?_ ?_
 ·intro hc2
  refine r0 ?_
  refine sp S (tr (mv rfl)<|tr (fldi 0 1 rfl uT24)<|tr (ldk 1 sC3 rfl rfl rfl)<|tr (fldi 0 2 rfl uT24)<|tr (ldk 1 sC3 rfl rfl rfl)<|la (ov fun S=>x_bd S [(0, .bool true), (1, iI r.inc)] [.bool true, iI r.inc, iI 0])) ?_; clear S; intro a u S
  replace S := S.pk [1, 0] (os' := [blO b3 (recE.cells r) 24, bnO (brF b_b b)])
  refine cl S (rRecv _ _ (S.xx (ow [bnO (brF b_b b)])) b_b b (S.mF (ks := [blO b3 (recE.cells r) 24]) (fs := [bnO (brF b_b b)])) (S.nfF (ks := [blO b3 (recE.cells r) 24]) (fs := [bnO (brF b_b b)]) hD) b_k (S.dF (ks := [blO b3 (recE.cells r) 24]) (fs := [bnO (brF b_b b)]) 0 rfl (mo_bn (mo_br _ _))) r.dev (S.u 0 rfl).2.1 (⟨true, r.inc, 0⟩ : Msg) ⟨trivial, (S.u 0 rfl).2.2.1, (show inI64 0 from ⟨by omega, by omega⟩)⟩ (⟨by first | assumption | exact hOK, by first | omega | (dsimp only; omega), by first | omega | (dsimp only; omega)⟩)) cB92 ?_
  rintro e u ⟨ra_t25, rc_t25, b_t25, rfl, R_t25, hk_b_t25, hK_b_t25, hq_b_t25, T0⟩; refine ⟨_, rfl, fun a s => ?_⟩
  have S2 := S.kF (ks := [blO b3 (recE.cells r) 24]) (fs := [bnO (brF b_b b)]) [rwO intE 3 0 ra_t25 rc_t25 ((recvC (rdB b) (stB b) (cB b) r.dev (⟨true, r.inc, 0⟩ : Msg)).sent), bnO (brF b_b b_t25)] s T0 ⟨⟨R_t25.b0.own, R_t25.wf⟩, hK_b_t25, trivial⟩ ⟨mo_rw, (mo_bn (mo_br _ _)), trivial⟩
  replace S2 := (show St _ _ _ _ _ _ [blO b3 (recE.cells r) 24, rwO intE 3 0 ra_t25 rc_t25 ((recvC (rdB b) (stB b) (cB b) r.dev (⟨true, r.inc, 0⟩ : Msg)).sent), bnO (brF b_b b_t25)] _ _ from S2)
  clear S; have S := S2; clear S2 s T0 hK_b_t25 R_t25
  refine nn (blk_n ?_)
  refine end0 rfl S.s ?_
  replace S := S.pk [2] (os' := [bnO (brF b_b b_t25)])
  refine ⟨b_t25, rfl, hk_b_t25, (S.m.o _ (nth_mem (i := 0) rfl)), ?_, S.m.c⟩
  refine ⟨⟨hq_b_t25.1.1, hq_b_t25.1.2⟩, hq_b_t25.2.trans ?_⟩
  have h1 : stepK (rdB b) (stB b) (cB b) r = helloC (cB b) r.dev r.inc := by unfold stepK; rw [if_neg (by assumption), if_pos (by assumption)]
  unfold stepJ; rw [h1]; rfl
 intro hc3
 refine rs S (tr (eqli rfl rfl)<|la (av rfl)) ?_; clear S; intro a u S
 refine cd S rfl ?_ ?_
 ·intro hc4
  refine r0 ?_
  refine sp S (tr (mv rfl)<|tr (fldi 0 1 rfl uT24)<|la (ldk 1 sC3 rfl rfl rfl)) ?_; clear S; intro a u S
  replace S := S.pk [1, 0] (os' := [blO b3 (recE.cells r) 24, bnO (brF b_b b)])
  refine cl S (rSkip _ _ (S.xx (ow [bnO (brF b_b b)])) b_b b (S.mF (ks := [blO b3 (recE.cells r) 24]) (fs := [bnO (brF b_b b)])) (S.nfF (ks := [blO b3 (recE.cells r) 24]) (fs := [bnO (brF b_b b)]) hD) b_k (S.dF (ks := [blO b3 (recE.cells r) 24]) (fs := [bnO (brF b_b b)]) 0 rfl (mo_bn (mo_br _ _))) r.dev (S.u 0 rfl).2.1 (by first | assumption | exact hOK)) cB94 ?_
  rintro e u ⟨ra_t31, rc_t31, b_t31, rfl, R_t31, hk_b_t31, hK_b_t31, hq_b_t31, T0⟩; refine ⟨_, rfl, fun a s => ?_⟩
  have S2 := S.kF (ks := [blO b3 (recE.cells r) 24]) (fs := [bnO (brF b_b b)]) [rwO intE 3 0 ra_t31 rc_t31 ((rmC (rdB b) (stB b) (cB b) r.dev).sent), bnO (brF b_b b_t31)] s T0 ⟨⟨R_t31.b0.own, R_t31.wf⟩, hK_b_t31, trivial⟩ ⟨mo_rw, (mo_bn (mo_br _ _)), trivial⟩
  replace S2 := (show St _ _ _ _ _ _ [blO b3 (recE.cells r) 24, rwO intE 3 0 ra_t31 rc_t31 ((rmC (rdB b) (stB b) (cB b) r.dev).sent), bnO (brF b_b b_t31)] _ _ from S2)
  clear S; have S := S2; clear S2 s T0 hK_b_t31 R_t31
  refine nn (blk_n ?_)
  refine end0 rfl S.s ?_
  replace S := S.pk [2] (os' := [bnO (brF b_b b_t31)])
  refine ⟨b_t31, rfl, hk_b_t31, (S.m.o _ (nth_mem (i := 0) rfl)), ?_, S.m.c⟩
  refine ⟨⟨hq_b_t31.1.1, hq_b_t31.1.2⟩, hq_b_t31.2.trans ?_⟩
  have h1 : stepK (rdB b) (stB b) (cB b) r = rmC (rdB b) (stB b) (cB b) r.dev := by unfold stepK; rw [if_neg (by assumption), if_neg (by assumption), if_pos (by assumption)]
  unfold stepJ; rw [h1]; rfl
 intro hc5
 refine rs S (tr (eqli rfl rfl)<|la (av rfl)) ?_; clear S; intro a u S
 refine cd S rfl ?_ ?_
 ·intro hc6
  refine r0 ?_
  refine sp S (la (mv rfl)) ?_; clear S; intro a u S
  replace S := S.pk [1, 0] (os' := [blO b3 (recE.cells r) 24, bnO (brF b_b b)])
  refine cl S (rAbort _ _ (S.xx (ow [bnO (brF b_b b)])) b_b b (S.mF (ks := [blO b3 (recE.cells r) 24]) (fs := [bnO (brF b_b b)])) (S.nfF (ks := [blO b3 (recE.cells r) 24]) (fs := [bnO (brF b_b b)]) hD) b_k (S.dF (ks := [blO b3 (recE.cells r) 24]) (fs := [bnO (brF b_b b)]) 0 rfl (mo_bn (mo_br _ _))) (by first | assumption | exact hOK)) cB95 ?_
  rintro e u ⟨ra_t35, rc_t35, b_t35, rfl, R_t35, hk_b_t35, hK_b_t35, hq_b_t35, T0⟩; refine ⟨_, rfl, fun a s => ?_⟩
  have S2 := S.kF (ks := [blO b3 (recE.cells r) 24]) (fs := [bnO (brF b_b b)]) [rwO intE 3 0 ra_t35 rc_t35 ((abortC (rdB b) (stB b) (cB b)).sent), bnO (brF b_b b_t35)] s T0 ⟨⟨R_t35.b0.own, R_t35.wf⟩, hK_b_t35, trivial⟩ ⟨mo_rw, (mo_bn (mo_br _ _)), trivial⟩
  replace S2 := (show St _ _ _ _ _ _ [blO b3 (recE.cells r) 24, rwO intE 3 0 ra_t35 rc_t35 ((abortC (rdB b) (stB b) (cB b)).sent), bnO (brF b_b b_t35)] _ _ from S2)
  clear S; have S := S2; clear S2 s T0 hK_b_t35 R_t35
  refine nn (blk_n ?_)
  refine end0 rfl S.s ?_
  replace S := S.pk [2] (os' := [bnO (brF b_b b_t35)])
  refine ⟨b_t35, rfl, hk_b_t35, (S.m.o _ (nth_mem (i := 0) rfl)), ?_, S.m.c⟩
  refine ⟨⟨hq_b_t35.1.1, hq_b_t35.1.2⟩, hq_b_t35.2.trans ?_⟩
  have h1 : stepK (rdB b) (stB b) (cB b) r = abortC (rdB b) (stB b) (cB b) := by unfold stepK; rw [if_neg (by assumption), if_neg (by assumption), if_neg (by assumption), if_pos (by assumption)]
  unfold stepJ; rw [h1]; rfl
 intro hc7
 refine wp_skip (blk_n ?_)
 refine end0 rfl S.s ?_
 replace S := S.pk [0] (os' := [bnO (brF b_b b)])
 refine ⟨b, rfl, b_k, (S.m.o _ (nth_mem (i := 0) rfl)), ?_, S.m.c⟩
 refine ⟨KeepB.refl b, ?_⟩
 unfold stepJ stepK
 rw [if_neg (by assumption), if_neg (by assumption), if_neg (by assumption), if_neg (by assumption)]; rfl
end Go.Proofs.Ytobggnpnochnnaa.V
set_option linter.unusedVariables false
set_option linter.unusedSimpArgs false
namespace Go.Proofs.Ytobggnpnochnnaa.V
open Go.RowKit
def okQ {α : Type} (q : Option α) : Prop := q.isSome = true
instance {α : Type} (q : Option α) : Decidable (okQ q) := by unfold okQ; infer_instance
def goodP (p : Plan) (n : Int) : Prop := (statesP p.staged (rdsP p) n).isSome = true ∧ p.rounds.xs.length ≤ 16
instance (p : Plan) (n : Int) : Decidable (goodP p n) := by unfold goodP; infer_instance
def newS (p : Plan) (n : Int) : List Int := if goodP p n then (startC (rdsP p) (stsD (statesP p.staged (rdsP p) n)) (newC n)).sent else []
end Go.Proofs.Ytobggnpnochnnaa.V
set_option linter.unusedVariables false
set_option linter.unusedSimpArgs false
namespace Go.Proofs.Ytobggnpnochnnaa.V
open Go.RowKit
end Go.Proofs.Ytobggnpnochnnaa.V
set_option linter.unusedVariables false
set_option linter.unusedSimpArgs false
namespace Go.Proofs.Ytobggnpnochnnaa.V
open Go.RowKit
def zTd : List Zop → List (Nat × Td (In ([] : List BS)))
  | [] => []
  | z :: r => (z.d, .is z.v) :: zTd r
def mkO {α : Type} (E : Enc α) (e base B t q f1 f2 : Nat) (k0 : OF) (cs : List Value) (x0 : α) (b3 b5 b9 b13 : Bool) (A C : Option Addr) : List OF :=
  [k0, blO B (bif b13 then (cs.set f1 (.slice A q q)).set f2 (.slice C q q) else bif b9 then cs.set f1 (.slice A q q) else cs) t] ++ (bif b3 then [rwO E e base A q (List.replicate q x0)] else []) ++ (bif b5 then [rwO E e base C q (List.replicate q x0)] else [])
/-- which operations an operation waits for -/
def waits (o : Oper) (k : Nat) : Bool := o.after.any fun e => Region.binds .any e && e.on == k
section
variable {P : Program} {F : Nat → Prop} {w0 : World} {m0 : List BS} {n : Nat} {L : List (Nat × Value)} {fs : List RF} {Q : Exit → Act → World → Prop}
def mkChk (ops : Array Oper) (L : List (Nat × Value)) (Z : List Zop) (i1 i2 s1 s2 d1 d2 : Nat) : Bool :=
  (List.range ops.size).all (fun i => i == i1 || i == i2 || i == s1 || i == s2 || Z.any fun z => z.i == i) &&
  Z.all (fun z => z.i != i1 && z.i != i2 && z.i != s1 && z.i != s2 && z.d != d1 && z.d != d2 && (look z.d L).isNone && (z.D.all fun d => Z.any fun y => y.d == d && match ops[z.i]? with | some o => waits o y.i | none => false) && Z.all fun y => y.i == z.i || y.d != z.d) &&
  (look d1 L).isNone && (look d2 L).isNone && d1 != d2 && i1 != i2 && i1 != s1 && i1 != s2 && i2 != s1 && i2 != s2 && s1 != s2 && decide (i1 < ops.size) && decide (i2 < ops.size) && decide (s1 < ops.size) && decide (s2 < ops.size)
def mkG {α : Type} (E : Enc α) (e B t q f1 f2 : Nat) (k0 : OF) (cs : List Value) (x0 : α) (F : Nat → Prop) (w0 : World) (m0 : List BS) (n : Nat) (L : List (Nat × Value)) (fs : List RF) (Z : List Zop) (i1 i2 s1 s2 d1 d2 : Nat) (z : Nat → Bool) (a : Act) (w : World) : Prop :=
  (∀ p ∈ Z, z p.i = true → a.tmps.getD p.d undef = p.v) ∧ (z s1 = true → z i1 = true) ∧ (z s2 = true → z s1 = true ∧ z i2 = true) ∧ ∃ A C : Option Addr, (z i1 = true → a.tmps.getD d1 undef = .slice A q q) ∧ (z i2 = true → a.tmps.getD d2 undef = .slice C q q) ∧ St F w0 m0 n L fs (mkO E e w0.heap.size B t q f1 f2 k0 cs x0 (z i1) (z i2) (z s1) (z s2) A C) a w
theorem mk2 {α : Type} {E : Enc α} {id : Nat} {a : Act} {w : World} {l : List Oper} {B t e q f1 f2 : Nat} {cs : List Value} {k0 : OF} {zv u1 u2 : Value} {bytes : Nat} (S : St F w0 m0 n L fs [k0, blO B cs t] a w) (Z : List Zop) (i1 i2 s1 s2 d1 d2 p1 p2 : Nat) (x0 : α) {N1 : Int} {kl : IntKind} {st ts : TypeId} {l1 c1 l2 c2 : Operand} {ty1 ty2 ty3 ty4 : TypeId} {ps1 ps2 ps3 ps4 : String} {af1 af2 af3 af4 : Array Edge}
    (hz : LZ5 P l.toArray n L (zTd Z) Z)
    (ht : P.underlying st = some (.slice e)) (hi : (P.info? e).map (fun i => (i.zero, i.size, i.bytes)) = some (some zv, E.n, bytes)) (hb : bytes * q ≤ 281474976710656) (hm : q ≤ maxLen) (hw : ∀ D h, E.wf D h x0)
    (h1 : l.toArray[i1]? = some ⟨some d1, .makeSlice st l1 c1, ty1, ps1, af1, none⟩) (h2 : l.toArray[i2]? = some ⟨some d2, .makeSlice st l2 c2, ty2, ps2, af2, none⟩) (h3 : l.toArray[s1]? = some ⟨none, .store ts (.tmp p1) (.tmp d1), ty3, ps3, af3, none⟩) (h4 : l.toArray[s2]? = some ⟨none, .store ts (.tmp p2) (.tmp d2), ty4, ps4, af4, none⟩)
    (hz1 : (P.info? ts).map (·.size) = some 1)
    (hq1 : ∃ x y X Y, x ∈ Z ∧ y ∈ Z ∧ X ∈ Z ∧ Y ∈ Z ∧ l1 = .tmp x.d ∧ c1 = .tmp y.d ∧ l2 = .tmp X.d ∧ c2 = .tmp Y.d ∧ x.v = .int kl N1 ∧ y.v = .int kl N1 ∧ X.v = .int kl N1 ∧ Y.v = .int kl N1 ∧ (∀ o, l.toArray[i1]? = some o → waits o x.i = true ∧ waits o y.i = true) ∧ ∀ o, l.toArray[i2]? = some o → waits o X.i = true ∧ waits o Y.i = true) (hN : N1 = (q : Int))
    (hp1 : ∃ x y, x ∈ Z ∧ y ∈ Z ∧ x.d = p1 ∧ y.d = p2 ∧ x.v = .pointer (some ⟨B, f1, none⟩) ∧ y.v = .pointer (some ⟨B, f2, none⟩) ∧ (∀ o, l.toArray[s1]? = some o → waits o x.i = true ∧ waits o i1 = true) ∧ ∀ o, l.toArray[s2]? = some o → waits o y.i = true ∧ waits o s1 = true ∧ waits o i2 = true)
    (hf : cs[f1]? = some u1 ∧ cs[f2]? = some u2 ∧ f1 ≠ f2)
    (chk : mkChk l.toArray L Z i1 i2 s1 s2 d1 d2 = true) (chk5' : chk5 l.toArray l.length [] [] = true) (hd : d1 < n ∧ d2 < n)
    (hzz : E.n = 1 ∧ E.cells x0 = [zv] ∧ zv.cells = #[zv]) (hmo : P.follows .mixedOrders = true)
    (hQ : ∀ c a d v w, Q (.panic c) (a.put (some d) v) w → Q (.panic c) a w)
    (fin : ∀ a w A C, St F w0 m0 n L fs [k0, blO B ((cs.set f1 (.slice A q q)).set f2 (.slice C q q)) t, rwO E e w0.heap.size A q (List.replicate q x0), rwO E e w0.heap.size C q (List.replicate q x0)] a w → Q .normal a w) : (Code.region id l.toArray true).wp P Q a w := by
  refine wp_region_any hmo ?_
  simp only [mkChk, Bool.and_eq_true, bne_iff_ne, decide_eq_true_eq] at chk
  obtain ⟨⟨⟨⟨⟨⟨⟨⟨⟨⟨⟨⟨⟨⟨k1, k2⟩, k3⟩, k4⟩, k5⟩, k6⟩, k7⟩, k8⟩, k9⟩, k10⟩, k11⟩, k12⟩, k13⟩, k14⟩, k15⟩ := chk
  have hc8 : cntB l.toArray.size [] (Array.replicate l.toArray.size false) + ([] : List Nat).length = l.toArray.size := by
    have h5 := chk5'
    simp only [chk5, Bool.and_eq_true, decide_eq_true_eq] at h5
    exact h5.2
  suffices key : wpAny P .any l.toArray Q (cntB l.toArray.size [] (Array.replicate l.toArray.size false) + ([] : List Nat).length) (Array.replicate l.toArray.size false) a { w with drawn := w.drawn + 1 } by
    rw [hc8] at key; exact key
  have hz2 : ∀ p ∈ Z, (p.i ≠ i1 ∧ p.i ≠ i2 ∧ p.i ≠ s1 ∧ p.i ≠ s2) ∧ (p.d ≠ d1 ∧ p.d ≠ d2) ∧ look p.d L = none ∧ (∀ d ∈ p.D, ∃ y ∈ Z, y.d = d ∧ ∀ o, l.toArray[p.i]? = some o → waits o y.i = true) ∧ ∀ y ∈ Z, y.i ≠ p.i → y.d ≠ p.d := fun p hp => by
    have h := List.all_eq_true.1 k2 p hp
    simp only [Bool.and_eq_true, bne_iff_ne, Option.isNone_iff_eq_none] at h
    obtain ⟨⟨⟨⟨⟨⟨⟨⟨a1, a2⟩, a3⟩, a4⟩, a5⟩, a6⟩, a7⟩, a8⟩, a9⟩ := h
    refine ⟨⟨a1, a2, a3, a4⟩, ⟨a5, a6⟩, a7, fun d hd => ?_, fun y hy hne => ?_⟩
    · obtain ⟨y, hy, h⟩ := List.any_eq_true.1 (List.all_eq_true.1 a8 d hd)
      simp only [Bool.and_eq_true, beq_iff_eq] at h
      refine ⟨y, hy, h.1, fun o ho => ?_⟩
      rw [ho] at h; exact h.2
    · have := List.all_eq_true.1 a9 y hy
      simp only [Bool.or_eq_true, beq_iff_eq, bne_iff_ne] at this
      exact this.resolve_left hne
  have hw8 : ∀ (listed : Array Bool) (o : Oper), (∀ e ∈ o.after, Region.binds .any e = true → listed.getD e.on false = true) → ∀ k, waits o k = true → listed.getD k false = true := fun listed o hall k hk => by
    obtain ⟨e, he, hb⟩ := Array.any_eq_true'.1 hk
    simp only [Bool.and_eq_true, beq_iff_eq] at hb
    rw [← hb.2]; exact hall e he hb.1
  have hput : ∀ (a : Act) (d d' : Nat) (v : Value), d ≠ d' → (a.put (some d) v).tmps.getD d' undef = a.tmps.getD d' undef := fun a d d' v h => by simp [Act.put, Array.getElem?_setIfInBounds_ne h]
  refine sched5 (G := fun listed a w => mkG E e B t q f1 f2 k0 cs x0 F w0 m0 n L fs Z i1 i2 s1 s2 d1 d2 (fun i => listed.getD i false) a w) l.length [] [] [] rfl chk5' hQ ?_ (fun z hz => by cases hz) ?_ _ _ a _ rfl (by simp) (fun k hk => by cases hk) (fun t _ _ ht => by rw [getD_replicate_false] at ht; cases ht) ?_
  · intro i hil0 listed a1 w1 hls hG hr
    obtain ⟨hil, o, ho, hall⟩ := mem_ready.1 hr
    have hlt : i < listed.size := by rw [hls]; simpa using hil0
    have hil : listed.getD i false = false := by
      rw [Array.getD_eq_getD_getElem?, Array.getElem?_eq_getElem hlt] at hil ⊢
      exact hil
    have hset : ∀ j, j ≠ i → (listed.setIfInBounds i true).getD j false = listed.getD j false := fun j hj => getD_set_ne false (Ne.symm hj)
    have hseti : (listed.setIfInBounds i true).getD i false = true := by simp [hlt]
    have hwt := hw8 listed o hall
    obtain ⟨g1, g2, g3, A, C, g4, g5, g6⟩ := hG
    dsimp only at g1 g2 g3 g4 g5 g6
    have hsz : ∀ d v, d < n → (a1.put (some d) v).tmps.getD d undef = v := fun d v hd => by rw [getD_put a1 d d v (by rw [g6.s.size]; exact hd), if_pos rfl]
    have hrow : ∀ (os : List OF) (ad : Option Addr) (w' : World), Row E e w0.heap.size F (abk ad :: ow os) w' ad q (List.replicate q x0) → ∀ f ∈ [rwO E e w0.heap.size ad q (List.replicate q x0)], f.p F (In (ow os ++ ow [rwO E e w0.heap.size ad q (List.replicate q x0)])) w' := fun os ad w' R f hf => by
      simp only [List.mem_singleton] at hf; subst hf
      exact ⟨R.own, fun x hx => Enc.mono _ (fun k _ hk => ⟨fun e => hk.1 ((in_app.1 e).elim .inr fun e => .inl (In.one.1 e)), hk.2⟩) (R.wf x hx)⟩
    by_cases e1 : i = i1
    · subst e1
      obtain rfl := Option.some.inj (h1.symm.trans ho)
      obtain ⟨x, y, _, _, hx, hy, _, _, rfl, rfl, _, _, hxv, hyv, _, _, hwx, _⟩ := hq1
      have b9 : listed.getD s1 false = false := Bool.eq_false_iff.2 fun h => by have := g2 h; rw [hil] at this; cases this
      have b13 : listed.getD s2 false = false := Bool.eq_false_iff.2 fun h => by have := (g3 h).1; rw [b9] at this; cases this
      obtain ⟨hw1, hw2⟩ := hwx _ h1
      have ev1 : a1.eval (.tmp x.d) = .int kl N1 := hxv ▸ g1 x hx (hwt _ hw1)
      have ev2 : a1.eval (.tmp y.d) = .int kl N1 := hyv ▸ g1 y hy (hwt _ hw2)
      refine head_op ho rfl (op_make (E := E) (F := F) (w0 := w0) (.tmp x.d) (.tmp y.d) rfl zv bytes ht hi hzz.1 x0 hzz.2.1 hzz.2.2 q ev1 ev2 hN hN hb hm g6.M (fun h => hw _ h) g6.m.c.size fun ad w' R T g => ?_)
      have key := (⟨g6.s.put_ne (Option.isNone_iff_eq_none.1 k3), g6.m.nu [rwO E e w0.heap.size ad q (List.replicate q x0)] T g (hrow _ _ _ R)⟩ : St F w0 m0 n L fs (_ ++ [rwO E e w0.heap.size ad q (List.replicate q x0)]) (a1.put (some d1) (.slice ad q q)) w')
      refine ⟨fun p hp hpz => ?_, fun _ => hseti, fun h => ?_, ad, C, fun _ => hsz d1 _ hd.1, fun h => ?_, ?_⟩
      · rw [hput _ _ _ _ (Ne.symm (hz2 p hp).2.1.1)]
        dsimp only at hpz; rw [hset _ (hz2 p hp).1.1] at hpz; exact g1 p hp hpz
      · dsimp only at h; rw [hset _ (Ne.symm k8), b13] at h; cases h
      · dsimp only at h; rw [hput _ _ _ _ k5]; rw [hset _ (Ne.symm k6)] at h; exact g5 h
      · dsimp only
        rw [hseti, hset _ (Ne.symm k6), hset _ (Ne.symm k7), hset _ (Ne.symm k8), b9, b13]
        rw [hil, b9, b13] at key
        cases hb5 : listed.getD i2 false
        · rw [hb5] at key; exact key
        · rw [hb5] at key; exact key.pk [0, 1, 3, 2]
    by_cases e2 : i = i2
    · subst e2
      obtain rfl := Option.some.inj (h2.symm.trans ho)
      obtain ⟨_, _, x, y, _, _, hx, hy, _, _, rfl, rfl, _, _, hxv, hyv, _, hwx⟩ := hq1
      have b13 : listed.getD s2 false = false := Bool.eq_false_iff.2 fun h => by have := (g3 h).2; rw [hil] at this; cases this
      obtain ⟨hw1, hw2⟩ := hwx _ h2
      have ev1 : a1.eval (.tmp x.d) = .int kl N1 := hxv ▸ g1 x hx (hwt _ hw1)
      have ev2 : a1.eval (.tmp y.d) = .int kl N1 := hyv ▸ g1 y hy (hwt _ hw2)
      refine head_op ho rfl (op_make (E := E) (F := F) (w0 := w0) (.tmp x.d) (.tmp y.d) rfl zv bytes ht hi hzz.1 x0 hzz.2.1 hzz.2.2 q ev1 ev2 hN hN hb hm g6.M (fun h => hw _ h) g6.m.c.size fun ad w' R T g => ?_)
      have key := (⟨g6.s.put_ne (Option.isNone_iff_eq_none.1 k4), g6.m.nu [rwO E e w0.heap.size ad q (List.replicate q x0)] T g (hrow _ _ _ R)⟩ : St F w0 m0 n L fs (_ ++ [rwO E e w0.heap.size ad q (List.replicate q x0)]) (a1.put (some d2) (.slice ad q q)) w')
      refine ⟨fun p hp hpz => ?_, fun h => ?_, fun h => ?_, A, ad, fun h => ?_, fun _ => hsz d2 _ hd.2, ?_⟩
      · rw [hput _ _ _ _ (Ne.symm (hz2 p hp).2.1.2)]
        dsimp only at hpz; rw [hset _ (hz2 p hp).1.2.1] at hpz; exact g1 p hp hpz
      · dsimp only at h ⊢; rw [hset _ (Ne.symm k9)] at h; rw [hset _ k6]; exact g2 h
      · dsimp only at h; rw [hset _ (Ne.symm k10), b13] at h; cases h
      · dsimp only at h; rw [hput _ _ _ _ (Ne.symm k5)]; rw [hset _ k6] at h; exact g4 h
      · dsimp only
        rw [hseti, hset _ k6, hset _ (Ne.symm k9), hset _ (Ne.symm k10), b13]
        rw [hil, b13] at key
        cases hb3 : listed.getD i1 false <;> cases hb9 : listed.getD s1 false <;> (rw [hb3, hb9] at key; exact key)
    by_cases e3 : i = s1
    · subst e3
      obtain rfl := Option.some.inj (h3.symm.trans ho)
      obtain ⟨x, _, hx, _, rfl, _, hxv, _, hwx, _⟩ := hp1
      obtain ⟨hw1, hw2⟩ := hwx _ h3
      have b3 := hwt _ hw2
      have b13 : listed.getD s2 false = false := Bool.eq_false_iff.2 fun h => by have := (g3 h).1; rw [hil] at this; cases this
      have ev1 : a1.eval (.tmp x.d) = .pointer (some ⟨B, f1, none⟩) := hxv ▸ g1 x hx (hwt _ hw1)
      have ev2 : a1.eval (.tmp d1) = .slice A q q := g4 b3
      have g7 := g6
      rw [hil, b13, b3] at g7
      have hB := g7.k (b := B) (cs := cs) (t := t) 1 rfl
      refine head_op ho rfl (op_skip (x_store hz1 ev1 ev2 rfl hB hf.1) ?_)
      have key := g7.k1s (a' := a1.put none undef) 1 rfl (blO B (cs.set f1 (.slice A q q)) t) rfl ⟨g7.s.size, g7.s.defers, g7.s.get⟩ (ch_set w1 B f1 (.slice A q q)) (hB.set (.slice A q q))
      refine ⟨fun p hp hpz => ?_, fun _ => ?_, fun h => ?_, A, C, fun h => ?_, fun h => ?_, ?_⟩
      · dsimp only at hpz; rw [hset _ (hz2 p hp).1.2.2.1] at hpz; exact g1 p hp hpz
      · dsimp only; rw [hset _ k7]; exact b3
      · dsimp only at h; rw [hset _ (Ne.symm k11), b13] at h; cases h
      · exact g4 b3
      · dsimp only at h; rw [hset _ k9] at h; exact g5 h
      · dsimp only
        rw [hseti, hset _ k7, hset _ k9, hset _ (Ne.symm k11), b13, b3]
        cases hb5 : listed.getD i2 false <;> (rw [hb5] at key; exact key)
    by_cases e4 : i = s2
    · subst e4
      obtain rfl := Option.some.inj (h4.symm.trans ho)
      obtain ⟨_, x, _, hx, _, rfl, _, hxv, _, hwx⟩ := hp1
      obtain ⟨hw1, hw2, hw3⟩ := hwx _ h4
      have b9 := hwt _ hw2
      have b5 := hwt _ hw3
      have b3 := g2 b9
      have ev1 : a1.eval (.tmp x.d) = .pointer (some ⟨B, f2, none⟩) := hxv ▸ g1 x hx (hwt _ hw1)
      have ev2 : a1.eval (.tmp d2) = .slice C q q := g5 b5
      have g7 := g6
      rw [hil, b9, b5, b3] at g7
      have hB := g7.k (b := B) (cs := cs.set f1 (.slice A q q)) (t := t) 1 rfl
      refine head_op ho rfl (op_skip (x_store hz1 ev1 ev2 rfl hB (by rw [List.getElem?_set_ne hf.2.2]; exact hf.2.1)) ?_)
      have key := g7.k1s (a' := a1.put none undef) 1 rfl (blO B ((cs.set f1 (.slice A q q)).set f2 (.slice C q q)) t) rfl ⟨g7.s.size, g7.s.defers, g7.s.get⟩ (ch_set w1 B f2 (.slice C q q)) (hB.set (.slice C q q))
      refine ⟨fun p hp hpz => ?_, fun _ => ?_, fun h => ?_, A, C, fun h => ?_, fun h => ?_, ?_⟩
      · dsimp only at hpz; rw [hset _ (hz2 p hp).1.2.2.2] at hpz; exact g1 p hp hpz
      · dsimp only; rw [hset _ k8]; exact b3
      · dsimp only; rw [hset _ k11, hset _ k10]; exact ⟨b9, b5⟩
      · exact g4 b3
      · exact g5 b5
      · dsimp only
        rw [hseti, hset _ k8, hset _ k10, hset _ k11, b9, b3, b5]
        exact key
    obtain ⟨p, hp, rfl⟩ : ∃ p ∈ Z, p.i = i := by
      have h := List.all_eq_true.1 k1 i (List.mem_range.2 (by simpa using hil0))
      simp only [Bool.or_eq_true, beq_iff_eq, e1, e2, e3, e4, false_or] at h
      obtain ⟨p, hp, h⟩ := List.any_eq_true.1 h
      exact ⟨p, hp, by simpa using h⟩
    obtain ⟨⟨o', ho', hgo, hod, hrun⟩, hpd, _⟩ := hz.get p hp
    obtain rfl := Option.some.inj (ho.symm.trans ho')
    obtain ⟨⟨n1, n2, n3, n4⟩, ⟨n5, n6⟩, n7, n8, n9⟩ := hz2 p hp
    have hlk : ∀ {Y : List Zop} {y : Zop}, LZ5 P l.toArray n L (zTd Z) Y → y ∈ Y → lookT y.d (zTd Z) = some (.is y.v) := fun h hy => (h.get _ hy).2.2
    have hdp : ∀ D, (∀ d ∈ D, d ∈ p.D) → deps (tq (zTd Z)) a1 w1 D := by
      intro D
      induction D with
      | nil => intro _; trivial
      | cons d r ih =>
        intro hs
        refine ⟨?_, ih fun d hd => hs d (List.mem_cons_of_mem _ hd)⟩
        obtain ⟨y, hy, rfl, hyw⟩ := n8 d (hs d List.mem_cons_self)
        rw [look_tq (hlk hz hy)]
        exact g1 y hy (hwt _ (hyw _ ho))
    have hS := (deps_open g6.s p.D (hdp p.D fun d hd => hd)).1
    refine head_op ho hgo (op_val (hrun a1 w1 hS) ?_)
    rw [hod]
    refine ⟨fun y hy hyz => ?_, fun h => ?_, fun h => ?_, A, C, fun h => ?_, fun h => ?_, ?_⟩
    · by_cases hyp : y.i = p.i
      · obtain ⟨⟨oy, hoy, _, hoyd, _⟩, _, hly⟩ := hz.get y hy
        rw [hyp] at hoy
        obtain rfl := Option.some.inj (ho.symm.trans hoy)
        have hyd : p.d = y.d := Option.some.inj (hod.symm.trans hoyd)
        rw [← hyd, hlk hz hp] at hly
        have hv : p.v = y.v := by injection Option.some.inj hly
        rw [← hyd, hsz p.d p.v hpd, hv]
      · rw [hput _ _ _ _ (Ne.symm (n9 y hy hyp))]
        dsimp only at hyz; rw [hset _ hyp] at hyz; exact g1 y hy hyz
    · dsimp only at h ⊢; rw [hset _ (Ne.symm n3)] at h; rw [hset _ (Ne.symm n1)]; exact g2 h
    · dsimp only at h ⊢; rw [hset _ (Ne.symm n4)] at h; rw [hset _ (Ne.symm n3), hset _ (Ne.symm n2)]; exact g3 h
    · dsimp only at h; rw [hset _ (Ne.symm n1)] at h; rw [hput _ _ _ _ n5]; exact g4 h
    · dsimp only at h; rw [hset _ (Ne.symm n2)] at h; rw [hput _ _ _ _ n6]; exact g5 h
    · dsimp only
      rw [hset _ (Ne.symm n1), hset _ (Ne.symm n2), hset _ (Ne.symm n3), hset _ (Ne.symm n4)]
      exact ⟨g6.s.put_ne n7, g6.m⟩
  · intro a1 w1 hG
    obtain ⟨_, _, _, A, C, _, _, g6⟩ := hG
    have hb : ∀ i, i < l.toArray.size → (fullB l.toArray.size []).getD i false = true := fun i hi => by rw [fullB_get hi]; rfl
    dsimp only at g6
    rw [hb _ k12, hb _ k13, hb _ k14, hb _ k15] at g6
    exact wpList_nil (fin a1 w1 A C g6)
  · refine ⟨fun p _ h => ?_, fun h => ?_, fun h => ?_, none, none, fun h => ?_, fun h => ?_, ?_⟩
    any_goals (dsimp only at h; rw [getD_replicate_false] at h; cases h)
    dsimp only
    rw [getD_replicate_false, getD_replicate_false, getD_replicate_false, getD_replicate_false]
    exact ⟨⟨S.s.size, S.s.defers, S.s.get⟩, S.m.drew⟩
end
end Go.Proofs.Ytobggnpnochnnaa.V
