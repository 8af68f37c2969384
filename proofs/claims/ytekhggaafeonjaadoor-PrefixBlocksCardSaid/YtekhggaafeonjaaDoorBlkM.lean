/- Plain laws on blocks of ranges: no program in sight. -/
import Derived.Test.YtekhggaafeonjaaDoorPreM
namespace Go.Proofs.YtekhggaafeonjaaDoor
/-- the greatest power of two, at most 2^k, that divides lo and is at most rem -/
def bsz : Nat → Int → Int → Int
  | 0, _, _ => 1
  | k + 1, lo, rem => if lo % 2 ^ (k + 1) = 0 ∧ 2 ^ (k + 1) ≤ rem then 2 ^ (k + 1) else bsz k lo rem
def pblk (wd : Nat) : Nat → Int → Int → List (Int × Int)
  | 0, _, _ => []
  | f + 1, lo, e => if lo < e then (lo, lo + bsz wd lo (e - lo) - 1) :: pblk wd f (lo + bsz wd lo (e - lo)) e else []
def badB (lo hi width : Int) : Bool := decide (width < 0) || (decide (32 < width) || (decide (hi < lo) || decide (2 ^ width.toNat ≤ hi)))
def blocksP (lo hi width : Int) : List (Int × Int) := if badB lo hi width then [] else pblk width.toNat (hi + 1 - lo).toNat lo (hi + 1)
theorem two_pos (k : Nat) : (1 : Int) ≤ 2 ^ k := by have := Nat.pow_pos (n := k) (show 0 < 2 by decide); exact_mod_cast this
theorem two_le (k : Nat) (h : k ≤ 32) : (2 : Int) ^ k ≤ 4294967296 := by
  have h1 := two_pow_le32 k h
  have h2 : (2 : Int) ^ k = ((2 ^ k : Nat) : Int) := by simp
  rw [h2]; omega
theorem bsz_pos (k : Nat) (lo rem : Int) : 1 ≤ bsz k lo rem := by
  induction k with
  | zero => simp [bsz]
  | succ k ih => simp only [bsz]; split
                 · exact two_pos _
                 · exact ih
theorem bsz_le (k : Nat) (lo rem : Int) (h : 1 ≤ rem) : bsz k lo rem ≤ rem := by
  induction k with
  | zero => simpa [bsz] using h
  | succ k ih => simp only [bsz]; split
                 · rename_i h; exact h.2
                 · exact ih
theorem bsz_hit (k : Nat) (lo rem : Int) (h1 : lo % 2 ^ k = 0) (h2 : 2 ^ k ≤ rem) : bsz k lo rem = 2 ^ k := by
  cases k with
  | zero => simp [bsz]
  | succ k => rw [bsz, if_pos ⟨h1, h2⟩]
theorem bsz_miss (k : Nat) (lo rem : Int) (h : ¬ (lo % 2 ^ (k + 1) = 0 ∧ 2 ^ (k + 1) ≤ rem)) : bsz (k + 1) lo rem = bsz k lo rem := by
  rw [bsz, if_neg h]
theorem pblk_step (wd : Nat) (lo e : Int) (h : lo < e) : pblk wd (e - lo).toNat lo e = (lo, lo + bsz wd lo (e - lo) - 1) :: pblk wd (e - (lo + bsz wd lo (e - lo))).toNat (lo + bsz wd lo (e - lo)) e := by
  have key : ∀ (f g : Nat) (lo : Int), (e - lo).toNat ≤ f → (e - lo).toNat ≤ g → pblk wd f lo e = pblk wd g lo e := by
    intro f
    induction f with
    | zero =>
      intro g lo hf _
      cases g with
      | zero => rfl
      | succ g => rw [pblk, pblk, if_neg (by omega)]
    | succ f ih =>
      intro g lo hf hg
      cases g with
      | zero => rw [pblk, pblk, if_neg (by omega)]
      | succ g =>
        rw [pblk, pblk]
        split
        · have := bsz_pos wd lo (e - lo)
          rw [ih g _ (by omega) (by omega)]
        · rfl
  have := bsz_pos wd lo (e - lo)
  obtain ⟨n, hn⟩ : ∃ n, (e - lo).toNat = n + 1 := ⟨(e - lo).toNat - 1, by omega⟩
  rw [hn, pblk, if_pos h, key n _ _ (by omega) (Nat.le_refl _)]
theorem pblk_end (wd : Nat) (e : Int) (f : Nat) : pblk wd f e e = [] := by cases f <;> simp [pblk]
def rngCells (xs : List (Int × Int)) : List Value := xs.flatMap fun p => [.int .u32 p.1, .int .u32 p.2]
theorem rngCells_len (xs : List (Int × Int)) : (rngCells xs).length = xs.length * 2 := by
  induction xs with
  | nil => rfl
  | cons p xs ih => simp only [rngCells, List.flatMap_cons, List.length_append, List.length_cons] at *; simp at *; omega
theorem rngCells_snoc (xs : List (Int × Int)) (a b : Int) : rngCells (xs ++ [(a, b)]) = rngCells xs ++ [.int .u32 a, .int .u32 b] := by simp [rngCells]
end Go.Proofs.YtekhggaafeonjaaDoor
