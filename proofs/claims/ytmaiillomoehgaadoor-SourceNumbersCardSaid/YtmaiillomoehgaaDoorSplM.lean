/- strings.Split at a separator of one byte gives the parts. -/
import Derived.Test.YtmaiillomoehgaaDoorStrs
import Derived.Test.YtmaiillomoehgaaDoorShelf
import Derived.Lib.SplitLaws
import Derived.Lib.IndexBytes
namespace Go.Proofs.YtmaiillomoehgaaDoor
open Go.RowKit
theorem indexByte_at (l1 : List UInt8) (c : UInt8) (l2 : List UInt8) (h : ∀ x ∈ l1, x ≠ c) : Lib.indexByte (l1 ++ c :: l2) c = l1.length := by
  induction l1 with
  | nil => simp [Lib.indexByte]
  | cons b l ih =>
    have hb : (b == c) = false := by simpa using h b (by simp)
    have hi := ih (fun x hx => h x (by simp [hx]))
    simp only [List.cons_append, Lib.indexByte, hb, hi]
    simp
theorem splitK_parts (c : UInt8) (n : Nat) : ∀ l : List UInt8, l.length ≤ n → Lib.splitK [c] 0 (l.count c) l = partsL c l := by
  induction n with
  | zero => intro l h; rw [List.length_eq_zero_iff.1 (Nat.le_zero.1 h)]; rfl
  | succ n ih =>
    intro l h
    cases hp : partsL c l with
    | nil => exact absurd hp (partsL_ne c l)
    | cons x t =>
      cases t with
      | nil =>
        obtain ⟨rfl, hx⟩ := partsL_one c l x hp
        rw [List.count_eq_zero_of_not_mem (fun hm => hx c hm rfl)]
        rfl
      | cons y t =>
        obtain ⟨l', rfl, h1, h2⟩ := partsL_more c l x y t hp
        have hc : (x ++ c :: l').count c = l'.count c + 1 := by
          rw [List.count_append, List.count_cons_self, List.count_eq_zero_of_not_mem (fun hm => h2 c hm rfl)]; omega
        rw [hc, Lib.splitK, Lib.index_one, indexByte_at x c l' h2, if_neg (by rw [beq_iff_eq]; omega), Int.toNat_natCast, Nat.add_zero, List.take_left]
        rw [show x.length + [c].length = x.length + 1 by rfl, ← List.drop_drop, List.drop_left, List.drop_succ_cons, List.drop_zero]
        rw [ih l' (by simp at h; omega), h1]
theorem map_bytes (xs : List ByteArray) : xs = (xs.map (·.data.toList)).map fun l => ⟨l.toArray⟩ := by
  rw [List.map_map]
  conv => lhs; rw [← List.map_id xs]
  apply List.map_congr_left
  intro b _
  exact list_bytes b _ rfl
theorem split_cells (s : ByteArray) (c : UInt8) : (Lib.splitB ⟨#[c]⟩ 0 (Lib.countB s ⟨#[c]⟩) s).map Value.string = strCells (partsL c s.data.toList) ∧ Lib.countB s ⟨#[c]⟩ + 1 = (partsL c s.data.toList).length := by
  have hk : Lib.countB s ⟨#[c]⟩ = s.data.toList.count c := Lib.count_one c s.data.toList
  have hd := Lib.splitB_data ⟨#[c]⟩ 0 (Lib.countB s ⟨#[c]⟩) s
  rw [show (⟨#[c]⟩ : ByteArray).data.toList = [c] by rfl, hk, splitK_parts c _ _ (Nat.le_refl _)] at hd
  refine ⟨?_, ?_⟩
  · rw [hk, map_bytes (Lib.splitB ⟨#[c]⟩ 0 (s.data.toList.count c) s), hd, strCells, List.map_map]
    rfl
  · rw [hk]
    have h1 := splitK_parts c _ s.data.toList (Nat.le_refl _)
    rw [← h1]
    have h2 : ∀ (n : Nat) (l : List UInt8), l.length ≤ n → (Lib.splitK [c] 0 (l.count c) l).length = l.count c + 1 := by
      intro n
      induction n with
      | zero => intro l h; rw [List.length_eq_zero_iff.1 (Nat.le_zero.1 h)]; rfl
      | succ n ih =>
        intro l h
        cases hp : partsL c l with
        | nil => exact absurd hp (partsL_ne c l)
        | cons x t =>
          cases t with
          | nil =>
            obtain ⟨rfl, hx⟩ := partsL_one c l x hp
            rw [List.count_eq_zero_of_not_mem (fun hm => hx c hm rfl)]
            rfl
          | cons y t =>
            obtain ⟨l', rfl, h1, h2⟩ := partsL_more c l x y t hp
            have hc : (x ++ c :: l').count c = l'.count c + 1 := by
              rw [List.count_append, List.count_cons_self, List.count_eq_zero_of_not_mem (fun hm => h2 c hm rfl)]; omega
            rw [hc, Lib.splitK, Lib.index_one, indexByte_at x c l' h2, if_neg (by rw [beq_iff_eq]; omega), Int.toNat_natCast, Nat.add_zero, List.length_cons]
            rw [show x.length + [c].length = x.length + 1 by rfl, ← List.drop_drop, List.drop_left, List.drop_succ_cons, List.drop_zero]
            rw [ih l' (by simp at h; omega)]
    exact (h2 _ _ (Nat.le_refl _)).symm
/-- internal/bytealg.MaxLen holds a number -/
def ML (w : World) : Prop := ∃ m : Int, w.cell? ⟨0, 0, none⟩ = some (.int .i64 m)
theorem ML.below {w w' : World} (h : ML w) (hb : Below w.heap.size w w') : ML w' := by
  obtain ⟨m, hm⟩ := h
  exact ⟨m, (hb.cell (p := ⟨0, 0, none⟩) (World.block_lt_of_cell? w _ hm)).trans hm⟩
theorem strings_Split1 (s : ByteArray) (c : UInt8) (hs : s.size < 4294967281) (w : World) (hm : ML w) :
    Calls Tryd.prog 32 #[.string s, .string ⟨#[c]⟩] w fun e w' =>
      e = .returned (.slice (some ⟨w.heap.size, 0, none⟩) (partsL c s.data.toList).length (partsL c s.data.toList).length) ∧ w' = w.alloc (.cells (strCells (partsL c s.data.toList)).toArray 9) := by
  obtain ⟨m, hm⟩ := hm
  have h := Tryd.strings_Split s ⟨#[c]⟩ m w hs hm (by show 1 ≤ #[c].size; simp)
  rw [(split_cells s c).1, (split_cells s c).2] at h
  exact h
theorem parts_le (c : UInt8) (l : List UInt8) : ∀ x ∈ partsL c l, x.length ≤ l.length := by
  induction l with
  | nil => intro x hx; simp [partsL] at hx; subst hx; simp
  | cons b l ih =>
    intro x hx
    rw [partsL] at hx
    split at hx
    · simp at hx
      rcases hx with rfl | hx
      · simp
      · have := ih x hx; simp; omega
    · cases hp : partsL c l with
      | nil => exact absurd hp (partsL_ne c l)
      | cons a t =>
        rw [hp] at hx ih
        simp [glueL] at hx
        rcases hx with rfl | hx
        · have := ih a (by simp); simp; omega
        · have := ih x (by simp [hx]); simp; omega
end Go.Proofs.YtmaiillomoehgaaDoor
