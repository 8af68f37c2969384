/- Plain laws of package source: the words of a line. -/
import Derived.Test.YtmaiillomoehgaaDoorTxtM
namespace Go.Proofs.YtmaiillomoehgaaDoor
def blk (c : UInt8) : Bool := c == 32 || c == 9
def sepB (c : UInt8) : Bool := c == 44 || c == 61
def flush (cur : List UInt8) : List (List UInt8) := if cur = [] then [] else [cur]
/-- the words of a line; cur: the beginning of the word that is being read -/
def wGo : List UInt8 → List UInt8 → List (List UInt8)
  | [], cur => flush cur
  | c :: l, cur => if c = 35 then flush cur else if blk c then flush cur ++ wGo l [] else if sepB c then flush cur ++ [c] :: wGo l [] else wGo l (cur ++ [c])
def wordsL (l : List UInt8) : List (List UInt8) := wGo l []
/-- where the word that is being read begins -/
def CurAt (l : List UInt8) (k : Nat) (st : Int) (cur : List UInt8) : Prop :=
  (st = -1 ∧ cur = []) ∨ ∃ f : Nat, st = f ∧ f < k ∧ k ≤ l.length ∧ cur = (l.drop f).take (k - f)
theorem CurAt.ne {l : List UInt8} {k : Nat} {st : Int} {cur : List UInt8} (h : CurAt l k st cur) : cur = [] ↔ st < 0 := by
  rcases h with ⟨rfl, rfl⟩ | ⟨f, rfl, h1, h2, rfl⟩
  · simp
  · constructor
    · intro h
      have := congrArg List.length h
      simp at this
      omega
    · intro h; omega
theorem CurAt.flush {l : List UInt8} {k : Nat} {st : Int} {cur : List UInt8} (h : CurAt l k st cur) : flush cur = if st < 0 then [] else [(l.drop st.toNat).take (k - st.toNat)] := by
  have hn := h.ne
  rcases h with ⟨rfl, rfl⟩ | ⟨f, rfl, h1, h2, rfl⟩
  · rfl
  · have hf : ¬ ((f : Int) < 0) := by omega
    rw [if_neg hf, Int.toNat_natCast]
    unfold Proofs.YtmaiillomoehgaaDoor.flush
    rw [if_neg (fun h => hf (hn.1 h))]
theorem CurAt.more {l : List UInt8} {k : Nat} {st : Int} {cur : List UInt8} (h : CurAt l k st cur) (hk : k < l.length) : CurAt l (k + 1) (if st < 0 then k else st) (cur ++ [l[k]]) := by
  rcases h with ⟨rfl, rfl⟩ | ⟨f, rfl, h1, h2, rfl⟩
  · refine .inr ⟨k, by simp, by omega, by omega, ?_⟩
    rw [show k + 1 - k = 1 by omega, List.drop_eq_getElem_cons hk]
    rfl
  · refine .inr ⟨f, by simp; omega, by omega, by omega, ?_⟩
    rw [show k + 1 - f = (k - f) + 1 by omega, List.take_succ_eq_append_getElem (by simp; omega), List.getElem_drop]
    congr 3
    omega
theorem flush_len (cur : List UInt8) : (flush cur).length ≤ cur.length := by
  unfold flush; split
  · simp
  · rename_i h; simp; exact List.length_pos_iff.2 h
theorem wGo_len : ∀ (l cur : List UInt8), (wGo l cur).length ≤ l.length + cur.length
  | [], cur => by simp only [wGo, List.length_nil]; have := flush_len cur; omega
  | c :: l, cur => by
    have hf := flush_len cur
    have h0 := wGo_len l []
    have h1 := wGo_len l (cur ++ [c])
    simp only [List.length_nil, List.length_append, List.length_singleton, List.length_cons] at *
    simp only [wGo]
    split
    · omega
    · split
      · simp; omega
      · split
        · simp; omega
        · omega
/-- a word's bytes: neither blank nor a separator -/
def plainB (c : UInt8) : Bool := !(blk c) && !(sepB c)
theorem wGo_plain : ∀ (x l cur : List UInt8), (∀ c ∈ x, plainB c = true ∧ c ≠ 35) → wGo (x ++ l) cur = wGo l (cur ++ x)
  | [], l, cur, _ => by simp
  | c :: x, l, cur, h => by
    have hc := h c (by simp)
    simp only [plainB, Bool.and_eq_true, Bool.not_eq_true'] at hc
    rw [List.cons_append, wGo, if_neg hc.2, hc.1.1, hc.1.2, if_neg Bool.false_ne_true, if_neg Bool.false_ne_true, wGo_plain x l _ fun d hd => h d (by simp [hd])]
    simp
theorem wGo_hash : ∀ (l cur : List UInt8), wGo l cur = wGo (l.takeWhile fun c => !(c == 35)) cur
  | [], cur => rfl
  | c :: l, cur => by
    by_cases hc : c = 35
    · subst hc
      simp [wGo]
    · have hb : (c == 35) = false := by simpa using hc
      rw [List.takeWhile_cons, hb]
      simp only [Bool.not_false, if_true, wGo, if_neg hc]
      rw [wGo_hash l [], wGo_hash l (cur ++ [c])]
theorem parts_head : ∀ (l : List UInt8), (partsL 35 l).head? = some (l.takeWhile fun c => !(c == 35))
  | [] => rfl
  | c :: l => by
    by_cases hc : c = 35
    · subst hc; simp [partsL]
    · have hb : (c == 35) = false := by simpa using hc
      have ih := parts_head l
      rw [partsL, if_neg hc, List.takeWhile_cons, hb]
      cases hp : partsL 35 l with
      | nil => exact absurd hp (partsL_ne 35 l)
      | cons a t =>
        rw [hp] at ih
        simp only [List.head?_cons, Option.some.injEq] at ih
        simp [glueL, ih]
end Go.Proofs.YtmaiillomoehgaaDoor
