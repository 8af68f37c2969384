/- The log of the controller, plain. -/
import Derived.Test.YtobggnpnochnnaaJouM
set_option linter.unusedVariables false
set_option linter.unusedSimpArgs false
namespace Go.Proofs.Ytobggnpnochnnaa.V
open Go.RowKit
def noS (c : Ctl) : Ctl := {c with sent := []}
theorem foldl_chgN {st : List Int} : ∀ (l : List Chg) (c : Ctl), noS (l.foldl (chgC st) c) = l.foldl (chgC st) (noS c)
  | [], _ => rfl
  | x :: t, c => by rw [List.foldl_cons, foldl_chgN t, List.foldl_cons]; rfl
theorem startN {rds : List (List Chg)} {sts : List (List Int)} (c : Ctl) : noS (startC rds sts c) = noS (startC rds sts (noS c)) := by
  unfold startC
  by_cases h : c.round < 0 ∨ (rds.length : Int) ≤ c.round
  · rw [if_pos h, if_pos (show (noS c).round < 0 ∨ (rds.length : Int) ≤ (noS c).round from h)]; rfl
  · rw [if_neg h, if_neg (show ¬ ((noS c).round < 0 ∨ (rds.length : Int) ≤ (noS c).round) from h)]
    have hq : ∀ c1 c2 : Ctl, noS c1 = noS c2 → noS {c1 with sent := c1.sent ++ c1.waiting} = noS {c2 with sent := c2.sent ++ c2.waiting} := by
      intro c1 c2 e
      cases c1; cases c2
      simp_all [noS]
    refine hq _ _ ?_
    rw [foldl_chgN, foldl_chgN]; rfl
theorem advN {rds : List (List Chg)} {sts : List (List Int)} : ∀ (f : Nat) (c : Ctl), noS (advC rds sts f c) = noS (advC rds sts f (noS c))
  | 0, c => rfl
  | f + 1, c => by
    rw [advC, advC]
    by_cases h1 : 0 < c.waiting.length
    · rw [if_pos h1, if_pos (show 0 < (noS c).waiting.length from h1)]; rfl
    · rw [if_neg h1, if_neg (show ¬ 0 < (noS c).waiting.length from h1)]
      by_cases h2 : c.back = true ∧ 0 ≤ c.round
      · rw [if_pos h2, if_pos (show (noS c).back = true ∧ 0 ≤ (noS c).round from h2), advN f, startN]
        exact (advN f (startC rds sts (noS {c with round := c.round - 1}))).symm
      · rw [if_neg h2, if_neg (show ¬ ((noS c).back = true ∧ 0 ≤ (noS c).round) from h2)]
        by_cases h3 : ¬ c.back = true ∧ c.round < rds.length
        · rw [if_pos h3, if_pos (show ¬ (noS c).back = true ∧ (noS c).round < rds.length from h3), advN f, startN]
          exact (advN f (startC rds sts (noS {c with round := c.round + 1}))).symm
        · rw [if_neg h3, if_neg (show ¬ (¬ (noS c).back = true ∧ (noS c).round < rds.length) from h3)]; rfl
theorem rmN {rds : List (List Chg)} {sts : List (List Int)} (c : Ctl) (d : Int) : noS (rmC rds sts c d) = noS (rmC rds sts (noS c) d) := advN 40 _
theorem stepN {rds : List (List Chg)} {sts : List (List Int)} (c : Ctl) (r : Rec) : stepJ rds sts c r = stepJ rds sts (noS c) r := by
  show noS (stepK rds sts c r) = noS (stepK rds sts (noS c) r)
  unfold stepK
  split
  · unfold ackC
    by_cases h : r.inc = c.known.getD r.dev.toNat 0 ∧ r.seq = c.seq
    · rw [if_pos h, if_pos (show r.inc = (noS c).known.getD r.dev.toNat 0 ∧ r.seq = (noS c).seq from h)]; exact rmN c r.dev
    · rw [if_neg h, if_neg (show ¬ (r.inc = (noS c).known.getD r.dev.toNat 0 ∧ r.seq = (noS c).seq) from h)]; rfl
  · split
    · unfold helloC
      by_cases h : c.known.getD r.dev.toNat 0 < r.inc
      · rw [if_pos h, if_pos (show (noS c).known.getD r.dev.toNat 0 < r.inc from h)]; rfl
      · rw [if_neg h, if_neg (show ¬ (noS c).known.getD r.dev.toNat 0 < r.inc from h)]; rfl
    · split
      · exact rmN c r.dev
      · split
        · unfold abortC
          by_cases h : c.back = true
          · rw [if_pos h, if_pos (show (noS c).back = true from h)]; rfl
          · rw [if_neg h, if_neg (show ¬ (noS c).back = true from h)]
            show noS (advC rds sts 40 _) = noS (advC rds sts 40 _)
            rw [advN, startN]; exact (advN 40 (startC rds sts (noS {c with back := true}))).symm
        · rfl
/-- a machine behind the records l -/
structure MachAt (R : List (List Chg)) (S : List (List Int)) (n : Int) (m : Mach) (l : List Rec) : Prop where
  ok : MachOK m
  sn : m.sent.xs.length ≤ 2000
  tg : (m.target.xs.length : Int) = n
  rd : rdsM m = R
  st : stsM m = S
  ab : noS (absM m) = foldJ R S n l
  al : allJ n l
theorem MachAt.step {R : List (List Chg)} {S : List (List Int)} {n : Int} {m m1 : Mach} {l : List Rec} {r : Rec} (h : MachAt R S n m l) (k : KeepM m m1) (e : absM m1 = stepJ (rdsM m) (stsM m) (absM m) r) (h1 : recOK r) (h2 : r.dev < n) : MachAt R S n m1 (l ++ [r]) := by
  have h0 : 0 ≤ r.dev := by unfold recOK at h1; omega
  have hc := stepJ_ok h.ok.1 h.ok.2 (r := r) h0 (by have := h.tg; omega)
  have hs : m1.sent.xs = [] := by show (absM m1).sent = []; rw [e]; rfl
  have ht : m1.target.xs.length = m.target.xs.length := by show (absM m1).target.length = _; rw [e]; exact hc.tg
  refine ⟨machOK_of h.ok k (by rw [e]; exact hc), by rw [hs]; decide, by rw [ht]; exact h.tg, (keep_rds k).trans h.rd, (keep_sts k).trans h.st, ?_, fun x hx => ?_⟩
  · rw [foldJ_app, ← h.ab, ← h.rd, ← h.st, ← stepN, e]; rfl
  · rcases List.mem_append.1 hx with hx | hx
    · exact h.al x hx
    · obtain rfl : x = r := by simpa using hx
      exact ⟨h1, h2⟩
theorem MachAt.new {R : List (List Chg)} {S : List (List Int)} {n : Int} {m : Mach} (hn : 0 ≤ n) (h : MachOK m) (hr : rdsM m = R) (hs : stsM m = S) (e : absM m = startC R S (newC n)) : MachAt R S n m [] := by
  obtain ⟨k, rfl⟩ : ∃ k : Nat, n = k := ⟨n.toNat, by omega⟩
  have ht0 : (startC R S (newC k)).target.length = k := by
    unfold startC
    split
    · simp [newC, zerosP]
    · have : ∀ (l : List Chg) (st : List Int) (c : Ctl), (l.foldl (chgC st) c).target.length = c.target.length := by
        intro l st
        induction l with
        | nil => intro c; rfl
        | cons x t ih => intro c; rw [List.foldl_cons, ih]; simp [chgC]
      exact (this _ _ _).trans (by simp [newC, zerosP])
  have ht : m.target.xs.length = k := by show (absM m).target.length = k; rw [e]; exact ht0
  have P := h.1
  rw [hr, hs, ht] at P
  refine ⟨h, ?_, by rw [ht], hr, hs, by rw [e]; rfl, fun r hr => by simp at hr⟩
  have : (absM m).sent.length ≤ 1000 := by rw [e]; exact (startC_new P).2
  exact Nat.le_trans this (by decide)
structure LogAt (R : List (List Chg)) (S : List (List Int)) (n : Int) (g : Lg) (l : List Rec) : Prop where
  ma : MachAt R S n g.m.2 l
  ls : g.l.xs = l
  le : l.length ≤ 4096
def appE (n : Int) (k : Nat) (r : Rec) : Int := if ¬ recOK r ∨ n ≤ r.dev then 1 else if 4096 ≤ k then 3 else 0
theorem LogAt.new {R : List (List Chg)} {S : List (List Int)} {n : Int} {g : Lg} (h : MachAt R S n g.m.2 []) (e : g.l.xs = []) : LogAt R S n g [] := ⟨h, e, by decide⟩
theorem LogAt.app {R : List (List Chg)} {S : List (List Int)} {n : Int} {g g1 : Lg} {l : List Rec} {r : Rec} (h : LogAt R S n g l) (e0 : appE n l.length r = 0) (k : KeepM g.m.2 g1.m.2) (e : absM g1.m.2 = stepJ (rdsM g.m.2) (stsM g.m.2) (absM g.m.2) r) (e2 : g1.l.xs = g.l.xs ++ [r]) : LogAt R S n g1 (l ++ [r]) := by
  unfold appE at e0
  split at e0
  · cases e0
  · rename_i hn
    split at e0
    · cases e0
    · obtain ⟨h1, h2⟩ := not_or.1 hn
      exact ⟨h.ma.step k e (Classical.not_not.1 h1) (by omega), by rw [e2, h.ls], by rw [List.length_append, List.length_singleton]; omega⟩
def bytesJ (l : List Rec) : List Int := l.flatMap fun r => if recOK r then encR r else []
theorem bytesJ_up {l : List Rec} {k : Nat} (h : k < l.length) (d : Rec) : bytesJ (l.take (k + 1)) = bytesJ (l.take k) ++ (if recOK (l.getD k d) then encR (l.getD k d) else []) := by
  unfold bytesJ; rw [take_up h rfl d, List.flatMap_append]; simp
theorem enc_len (r : Rec) : (if recOK r then encR r else []).length ≤ 14 := by split <;> simp [encR_len]
theorem bytesJ_len : ∀ (l : List Rec), (bytesJ l).length ≤ 14 * l.length
  | [] => by simp [bytesJ]
  | r :: t => by
    have := bytesJ_len t
    unfold bytesJ at *
    rw [List.flatMap_cons, List.length_append, List.length_cons]
    have h1 : (if recOK r then encR r else []).length ≤ 14 := by split <;> simp [encR_len]
    omega
theorem decF_good {b : List Int} : ∀ (f k j : Nat), k ≤ j → j < decF b f k → 14 * j + 14 ≤ b.length ∧ goodX (subB b j)
  | 0, k, j, h, hj => by rw [decF] at hj; omega
  | f + 1, k, j, h, hj => by
    rw [decF] at hj
    split at hj
    · rename_i hg
      rcases Nat.eq_or_lt_of_le h with e | e
      · subst e; exact hg
      · exact decF_good f (k + 1) j e hj
    · omega
theorem decF_le {b : List Int} : ∀ (f k : Nat), decF b f k ≤ k + f
  | 0, k => by rw [decF]; omega
  | f + 1, k => by
    rw [decF]
    split
    · have := decF_le (b := b) f (k + 1); omega
    · omega
theorem decN_le (b : List Int) : decN b ≤ 4096 := by have := decF_le (b := b) 4096 0; unfold decN; omega
theorem recsP_ok {b : List Int} {r : Rec} (h : r ∈ recsP b (decN b)) : recOK r := by
  unfold recsP at h
  obtain ⟨j, hj, rfl⟩ := List.mem_map.1 h
  exact (decF_good 4096 0 j (Nat.zero_le _) (List.mem_range.1 hj)).2.1
theorem replC_z {p : Plan} {n : Int} {l : List Rec} (h : replE p n l ≠ 0) : replC p n l = zeroC := if_neg h
def recsJ (b : List Int) : List Rec := recsP b (decN b)
def openN {α : Type} (q : Option α) (b : List Int) : Int := if q.isSome = true then ((14 * decN b : Nat) : Int) else 0
theorem recsJ_len (b : List Int) : (recsJ b).length ≤ 4096 := by unfold recsJ; rw [recsP_len]; exact decN_le b
end Go.Proofs.Ytobggnpnochnnaa.V
