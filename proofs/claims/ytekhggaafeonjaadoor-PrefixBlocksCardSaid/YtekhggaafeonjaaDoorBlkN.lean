/- Plain laws on the reference's blocks, and on their prefixes: no program in sight. -/
import Derived.Test.YtekhggaafeonjaaDoorBlkM
import Derived.Test.YtekhggaafeonjaaDoorComM
namespace Go.Proofs.YtekhggaafeonjaaDoor
theorem two_mod (i k : Nat) (h : i ≤ k) (lo : Int) (hm : lo % 2 ^ k = 0) : lo % 2 ^ i = 0 := by
  obtain ⟨d, rfl⟩ : ∃ d, k = i + d := ⟨k - i, by omega⟩
  obtain ⟨c, hc⟩ := Int.dvd_of_emod_eq_zero hm
  rw [hc, Int.pow_add, Int.mul_assoc]
  exact Int.mul_emod_right _ _
theorem two_mono (i k : Nat) (h : i ≤ k) : (2 : Int) ^ i ≤ 2 ^ k := by
  have := Nat.pow_le_pow_right (show 0 < 2 by decide) h
  exact_mod_cast this
theorem two_lt (i k : Nat) (h : i < k) : (2 : Int) ^ i < 2 ^ k := by
  have := Nat.pow_lt_pow_right (show 1 < 2 by decide) h
  exact_mod_cast this
theorem bsz_up (j d : Nat) (lo rem : Int) (h1 : lo % 2 ^ j = 0) (h2 : 2 ^ j ≤ rem) (hn : ¬ (lo % 2 ^ (j + 1) = 0 ∧ 2 ^ (j + 1) ≤ rem)) : bsz (j + d) lo rem = 2 ^ j := by
  induction d with
  | zero => exact bsz_hit j lo rem h1 h2
  | succ d ih =>
    rw [← Nat.add_assoc, bsz_miss, ih]
    intro h
    refine hn ⟨two_mod _ _ (by omega) _ h.1, ?_⟩
    have := two_mono (j + 1) (j + d + 1) (by omega)
    omega
theorem bsz_top (j wd : Nat) (hj : j ≤ wd) (lo rem : Int) (h1 : lo % 2 ^ j = 0) (h2 : 2 ^ j ≤ rem) (hn : ¬ (lo % 2 ^ (j + 1) = 0 ∧ 2 ^ (j + 1) ≤ rem)) : bsz wd lo rem = 2 ^ j := by
  obtain ⟨d, rfl⟩ : ∃ d, wd = j + d := ⟨wd - j, by omega⟩
  exact bsz_up j d lo rem h1 h2 hn
theorem bsz_form (k : Nat) (lo rem : Int) : ∃ j, j ≤ k ∧ bsz k lo rem = 2 ^ j ∧ lo % 2 ^ j = 0 := by
  induction k with
  | zero => exact ⟨0, Nat.le_refl _, rfl, by simp⟩
  | succ k ih =>
    rw [bsz]
    split
    · rename_i h; exact ⟨k + 1, Nat.le_refl _, rfl, h.1⟩
    · obtain ⟨j, h1, h2, h3⟩ := ih; exact ⟨j, by omega, h2, h3⟩
theorem pblk_mem (wd : Nat) (e : Int) : ∀ (f : Nat) (lo : Int), 0 ≤ lo → ∀ p ∈ pblk wd f lo e, ∃ j, j ≤ wd ∧ p.1 % 2 ^ j = 0 ∧ p.2 = p.1 + 2 ^ j - 1 ∧ 0 ≤ p.1 ∧ p.2 < e
  | 0, _, _, p, h => by simp [pblk] at h
  | f + 1, lo, h0, p, h => by
    rw [pblk] at h
    split at h
    · rename_i hlt
      rcases List.mem_cons.1 h with rfl | h
      · obtain ⟨j, h1, h2, h3⟩ := bsz_form wd lo (e - lo)
        have hle := bsz_le wd lo (e - lo) (by omega)
        refine ⟨j, h1, h3, by dsimp only; rw [h2], h0, ?_⟩
        dsimp only
        omega
      · exact pblk_mem wd e f _ (by have := bsz_pos wd lo (e - lo); omega) p h
    · cases h
theorem blocks_mem (lo hi width : Int) (h0 : 0 ≤ lo) (h1 : hi ≤ 4294967295) (hw : width ≤ 32) : ∀ p ∈ blocksP lo hi width, ∃ j, j ≤ 32 ∧ p.1 % 2 ^ j = 0 ∧ p.2 = p.1 + 2 ^ j - 1 ∧ 0 ≤ p.1 ∧ p.2 ≤ 4294967295 := by
  intro p hp
  unfold blocksP at hp
  split at hp
  · cases hp
  · obtain ⟨j, g1, g2, g3, g4, g5⟩ := pblk_mem _ _ _ _ h0 p hp
    exact ⟨j, by omega, g2, g3, g4, by omega⟩
theorem pw_of (j : Nat) (h : j ≤ 32) : pw (32 - (j : Int)) = 2 ^ j := by
  rw [pw_nat, show (32 - (32 - (j : Int))).toNat = j by omega]
  simp
theorem div_two (a : Int) (j k : Nat) (h : j ≤ k) : a / 2 ^ k = a / 2 ^ j / 2 ^ (k - j) := by
  rw [Int.ediv_ediv_of_nonneg (by have := two_pos j; omega), ← Int.pow_add, show j + (k - j) = k by omega]
/-- the common prefix of the ends of a block -/
theorem commN_block (lo : Int) (j : Nat) (h0 : 0 ≤ lo) (hj : j ≤ 32) (hm : lo % 2 ^ j = 0) (h1 : lo + 2 ^ j - 1 ≤ 4294967295) : commN lo (lo + 2 ^ j - 1) = 32 - (j : Int) ∧ lo / pw (32 - (j : Int)) * pw (32 - (j : Int)) = lo := by
  have hp := two_pos j
  refine ⟨?_, ?_⟩
  · have hb := commN_bd lo (lo + 2 ^ j - 1) h0 (by omega) (by omega) h1
    have hd := commN_div lo (lo + 2 ^ j - 1) h0 (by omega) (by omega) h1
    have hn := commN_ne lo (lo + 2 ^ j - 1) h0 (by omega) (by omega) h1
    obtain ⟨i, hi⟩ : ∃ i : Nat, commN lo (lo + 2 ^ j - 1) = 32 - (i : Int) := ⟨(32 - commN lo (lo + 2 ^ j - 1)).toNat, by omega⟩
    rw [hi] at hb hd hn ⊢
    rw [pw_of i (by omega)] at hd
    have hsame : lo / 2 ^ j = (lo + 2 ^ j - 1) / 2 ^ j := by
      obtain ⟨c, hc⟩ := Int.dvd_of_emod_eq_zero hm
      rw [hc, show (2 : Int) ^ j * c + 2 ^ j - 1 = (2 ^ j - 1) + 2 ^ j * c by omega, Int.add_mul_ediv_left _ _ (by omega), Int.mul_ediv_cancel_left _ (by omega), Int.ediv_eq_zero_of_lt (by omega) (by omega)]
      omega
    rcases Nat.lt_trichotomy i j with hlt | rfl | hgt
    · exfalso
      obtain ⟨c, hc⟩ := Int.dvd_of_emod_eq_zero (two_mod i j (by omega) lo hm)
      have hpi := two_pos i
      have hle := two_mono (i + 1) j (by omega)
      rw [Int.pow_succ] at hle
      have e1 : lo / 2 ^ i = c := by rw [hc]; exact Int.mul_ediv_cancel_left _ (by omega)
      have e2 : c + 1 ≤ (lo + 2 ^ j - 1) / 2 ^ i := (Int.le_ediv_iff_mul_le (by omega)).2 (by rw [Int.add_mul, Int.mul_comm c, ← hc]; omega)
      omega
    · rfl
    · exfalso
      have hi1 : 32 - (i : Int) + 1 = 32 - ((i - 1 : Nat) : Int) := by omega
      refine hn (by omega) ?_
      rw [hi1, pw_of _ (by omega), div_two lo j (i - 1) (by omega), div_two (lo + 2 ^ j - 1) j (i - 1) (by omega), hsame]
  · rw [pw_of j hj]
    have := Int.mul_ediv_add_emod lo (2 ^ j)
    rw [hm] at this
    rw [Int.mul_comm]; omega
def splitP (xs : List (Int × Int)) : List (Int × Int) := xs.map fun p => (p.1, commN p.1 p.2)
def pfxCells (xs : List (Int × Int)) : List Value := xs.flatMap fun p => [.int .u32 p.1, .int .i64 p.2]
theorem pfxCells_len (xs : List (Int × Int)) : (pfxCells xs).length = xs.length * 2 := by
  induction xs with
  | nil => rfl
  | cons p xs ih => simp only [pfxCells, List.flatMap_cons, List.length_append, List.length_cons] at *; simp at *; omega
theorem pfxCells_snoc (xs : List (Int × Int)) (a b : Int) : pfxCells (xs ++ [(a, b)]) = pfxCells xs ++ [.int .u32 a, .int .i64 b] := by simp [pfxCells]
theorem rngCells_at (xs : List (Int × Int)) : ∀ (k : Nat) (p : Int × Int), xs[k]? = some p → (rngCells xs)[2 * k]? = some (.int .u32 p.1) ∧ (rngCells xs)[2 * k + 1]? = some (.int .u32 p.2) := by
  induction xs with
  | nil => intro k p h; simp at h
  | cons q xs ih =>
    intro k p h
    cases k with
    | zero => simp at h; subst h; exact ⟨rfl, rfl⟩
    | succ k =>
      have := ih k p (by simpa using h)
      simp only [rngCells, List.flatMap_cons] at this ⊢
      exact ⟨by rw [show 2 * (k + 1) = 2 * k + 2 by omega]; simpa using this.1, by rw [show 2 * (k + 1) + 1 = (2 * k + 1) + 2 by omega]; simpa using this.2⟩
theorem pfxCells_at (xs : List (Int × Int)) : ∀ (k : Nat) (p : Int × Int), xs[k]? = some p → (pfxCells xs)[2 * k]? = some (.int .u32 p.1) ∧ (pfxCells xs)[2 * k + 1]? = some (.int .i64 p.2) := by
  induction xs with
  | nil => intro k p h; simp at h
  | cons q xs ih =>
    intro k p h
    cases k with
    | zero => simp at h; subst h; exact ⟨rfl, rfl⟩
    | succ k =>
      have := ih k p (by simpa using h)
      simp only [pfxCells, List.flatMap_cons] at this ⊢
      exact ⟨by rw [show 2 * (k + 1) = 2 * k + 2 by omega]; simpa using this.1, by rw [show 2 * (k + 1) + 1 = (2 * k + 1) + 2 by omega]; simpa using this.2⟩
end Go.Proofs.YtekhggaafeonjaaDoor
