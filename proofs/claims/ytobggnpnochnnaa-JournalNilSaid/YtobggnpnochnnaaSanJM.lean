/- The journal's example, and records that are read back, plain. -/
import Derived.Test.YtobggnpnochnnaaLogM
import Derived.Test.YtobggnpnochnnaaJouM
set_option linter.unusedVariables false
set_option linter.unusedSimpArgs false
namespace Go.Proofs.Ytobggnpnochnnaa.V
open Go.RowKit
theorem num_be {v : Int} (h0 : 0 ≤ v) (h1 : v ≤ 4294967295) (a b c d : Int) (ha : a = v / 16777216 % 256) (hb : b = v / 65536 % 256) (hc : c = v / 256 % 256) (hd : d = v % 256) : a * 16777216 + b * 65536 + c * 256 + d = v := by omega
theorem crcL_rng (l : List Int) : 0 ≤ crcL l ∧ crcL l ≤ 4294967295 := crcL_in l
theorem recX_enc {r : Rec} (h : recOK r) (x : List Int) : recX (encR r ++ x) = r := by
  have e3 : num4 (encR r ++ x) 2 = r.inc := num_be h.2.2.1.1 (by have := h.2.2.1.2; omega) _ _ _ _ rfl rfl rfl rfl
  have e4 : num4 (encR r ++ x) 6 = r.seq := num_be h.2.2.2.1.1 (by have := h.2.2.2.1.2; omega) _ _ _ _ rfl rfl rfl rfl
  unfold recX
  rw [e3, e4]
  rfl
theorem good_enc {r : Rec} (h : recOK r) : goodX (encR r) := by
  have e := recX_enc h []
  rw [List.append_nil] at e
  refine ⟨by rw [e]; exact h, ?_⟩
  show num4 (encR r) 10 = crcL (encB r)
  exact num_be (crcL_rng _).1 (crcL_rng _).2 _ _ _ _ rfl rfl rfl rfl
theorem bytesJ_nil : bytesJ [] = [] := rfl
theorem bytesJ_cons {r : Rec} (h : recOK r) (l : List Rec) : bytesJ (r :: l) = encR r ++ bytesJ l := by unfold bytesJ; rw [List.flatMap_cons, if_pos h]
theorem bytesJ_app (l m : List Rec) : bytesJ (l ++ m) = bytesJ l ++ bytesJ m := List.flatMap_append
theorem bytesJ_one {r : Rec} (h : recOK r) : bytesJ [r] = encR r := by rw [bytesJ_cons h, bytesJ_nil, List.append_nil]
theorem bytesJ_lenOK : ∀ {l : List Rec}, (∀ r ∈ l, recOK r) → (bytesJ l).length = 14 * l.length
  | [], _ => rfl
  | r :: t, h => by
    rw [bytesJ_cons (h r (.head _)), List.length_append, encR_len, bytesJ_lenOK fun r hr => h r (.tail _ hr), List.length_cons]
    omega
theorem subB_at {l : List Rec} (h : ∀ r ∈ l, recOK r) (x : List Int) {k : Nat} (hk : k < l.length) : subB (bytesJ l ++ x) k = encR l[k] := by
  have e : bytesJ l = bytesJ (l.take k) ++ (encR l[k] ++ bytesJ (l.drop (k + 1))) := by
    rw [← bytesJ_cons (h _ (List.getElem_mem hk)), ← bytesJ_app]
    congr 1
    rw [List.getElem_cons_drop, List.take_append_drop]
  have hl : (bytesJ (l.take k)).length = 14 * k := by rw [bytesJ_lenOK fun r hr => h r (List.mem_of_mem_take hr), List.length_take]; congr 1; omega
  have hn : (encR l[k]).length = 14 := encR_len _
  unfold subB
  rw [e, List.append_assoc, List.append_assoc, List.take_append, hl, List.take_of_length_le (by omega), List.drop_append, List.drop_of_length_le (by omega), hl, List.nil_append, Nat.sub_self, List.drop_zero, show 14 * k + 14 - 14 * k = 14 from by omega, List.take_append, hn, List.take_of_length_le (by omega), Nat.sub_self, List.take_zero, List.append_nil]
theorem decF_up {b : List Int} {n : Nat} (h1 : ∀ j, j < n → 14 * j + 14 ≤ b.length ∧ goodX (subB b j)) (h2 : ¬ (14 * n + 14 ≤ b.length ∧ goodX (subB b n))) : ∀ (f k : Nat), k ≤ n → n - k ≤ f → decF b f k = n
  | f, k, hk, hf => by
    rcases Nat.eq_or_lt_of_le hk with e | e
    · subst e; exact decF_no (.inr h2)
    · cases f with
      | zero => omega
      | succ f =>
        rw [decF, if_pos (h1 k e)]
        exact decF_up h1 h2 f (k + 1) (by omega) (by omega)
theorem dec_bytes {l : List Rec} (h : ∀ r ∈ l, recOK r) (hl : l.length ≤ 4096) (x : List Int) (hx : ¬ (14 ≤ x.length ∧ goodX (x.take 14))) : decN (bytesJ l ++ x) = l.length ∧ recsP (bytesJ l ++ x) l.length = l := by
  have hb := bytesJ_lenOK h
  constructor
  · refine decF_up (fun j hj => ⟨by rw [List.length_append, hb]; omega, by rw [subB_at h x hj]; exact good_enc (h _ (List.getElem_mem hj))⟩) (fun q => hx ?_) _ _ (Nat.zero_le _) (by omega)
    have e : subB (bytesJ l ++ x) l.length = x.take 14 := by
      unfold subB
      rw [List.take_append, hb, List.take_of_length_le (by omega), List.drop_append, hb, List.drop_of_length_le (by omega), Nat.sub_self, List.drop_zero, List.nil_append, Nat.add_sub_cancel_left]
    rw [e] at q
    exact ⟨by have := q.1; rw [List.length_append, hb] at this; omega, q.2⟩
  · unfold recsP
    apply List.ext_getElem (by simp)
    intro i h1 h2
    rw [List.getElem_map, List.getElem_range, subB_at h x h2]
    have e := recX_enc (h _ (List.getElem_mem h2)) []
    rwa [List.append_nil] at e
theorem dec_one {r : Rec} (h : recOK r) (x : List Int) (hx : x.length < 14) : decN (encR r ++ x) = 1 ∧ recsP (encR r ++ x) 1 = [r] := by
  have := dec_bytes (l := [r]) (fun q hq => by rw [List.mem_singleton.1 hq]; exact h) (by show 1 ≤ 4096; decide) x (fun q => by omega)
  rwa [bytesJ_one h] at this
def r1J : Rec := ⟨1, 0, 0, 1⟩
theorem r1_ok : recOK r1J := by decide
def R1 : List (List Chg) := [[⟨0, 3⟩]]
theorem st1 : statesP false R1 1 = some [[0], [3]] := rfl
theorem st0 : statesP false R1 0 = none := rfl
theorem fold1 : (foldJ R1 [[0], [3]] 1 [r1J]).round = 1 ∧ (foldJ R1 [[0], [3]] 1 [r1J]).waiting = [] := ⟨rfl, rfl⟩
theorem all1 : allJ 1 [r1J] := fun r h => by rw [List.mem_singleton.1 h]; decide
def isOne (p : Plan) : Prop := p.staged = false ∧ rdsP p = R1
theorem one_len {p : Plan} (h : isOne p) : p.rounds.xs.length = 1 := by rw [← rdsP_len, h.2]; rfl
theorem one_st {p : Plan} (h : isOne p) : statesP p.staged (rdsP p) 1 = some [[0], [3]] := by rw [h.1, h.2]; rfl
theorem one_good {p : Plan} (h : isOne p) : (statesP p.staged (rdsP p) 1).isSome = true ∧ p.rounds.xs.length ≤ 16 := ⟨by rw [one_st h]; rfl, by rw [one_len h]; decide⟩
theorem one_bad {p : Plan} (h : isOne p) : ¬ ((statesP p.staged (rdsP p) 0).isSome = true ∧ p.rounds.xs.length ≤ 16) := fun q => by rw [h.1, h.2] at q; exact absurd q.1 (by decide)
theorem one_rep {p : Plan} (h : isOne p) : replE p 1 [r1J] = 0 ∧ (replC p 1 [r1J]).round = 1 ∧ (replC p 1 [r1J]).waiting = [] := by
  have e : replE p 1 [r1J] = 0 := by unfold replE; rw [if_neg (fun q => q (one_good h)), if_neg (by decide), if_pos all1]
  refine ⟨e, ?_⟩
  unfold replC
  rw [if_pos e, one_st h, h.2]
  exact fold1
theorem rec1 : recsJ (bytesJ [r1J]) = [r1J] ∧ decN (bytesJ [r1J]) = 1 := by
  have h := dec_bytes (l := [r1J]) (fun q hq => by rw [List.mem_singleton.1 hq]; exact r1_ok) (by decide) [] (fun q => absurd q.1 (by decide))
  rw [List.append_nil] at h
  refine ⟨?_, h.1⟩
  unfold recsJ
  rw [h.1]
  exact h.2
theorem ap1 : appE 1 0 r1J = 0 := rfl
theorem LogAt.lb {R : List (List Chg)} {S : List (List Int)} {n : Int} {g : Lg} {l : List Rec} (h : LogAt R S n g l) : g.l.xs.length ≤ 10000 := by rw [h.ls]; exact Nat.le_trans h.le (by decide)
end Go.Proofs.Ytobggnpnochnnaa.V
