/- Lists of lines in memory. -/
import Derived.Test.YtmaiillomoehgaaDoorStrs
import Derived.Test.YtmaiillomoehgaaDoorLinM
import Derived.Deep.AppendLies
namespace Go.Proofs.YtmaiillomoehgaaDoor
open Go.RowKit
theorem infoLine : (Tryd.prog.info? 35).map (fun i => (i.zero, i.size, i.bytes)) = some (some (.agg #[.int .i64 0, .slice none 0 0]), 2, 32) := by kernel_rfl
theorem StrsAt.grown {w w' : World} {row : Option Nat} {u : Value} {xs : List (List UInt8)} (h : StrsAt w u xs) (hg : w.grownBy w' row) (hne : ∀ b, u.ownBlock = some b → row ≠ some b) : StrsAt w' u xs := by
  obtain ⟨hl, a, cap, rfl, h⟩ := h
  refine ⟨hl, a, cap, rfl, h.imp id fun ⟨b, off, ha, hlt, hc⟩ => ⟨b, off, ha, Nat.lt_of_lt_of_le hlt hg.size, fun j l e => ?_⟩⟩
  subst ha
  exact (hg.cell_far ⟨b, off + j, none⟩ hlt (fun h => hne b rfl h.symm)).trans (hc j l e)
def lineCells : List (Nat × List (List UInt8)) → List Value → List Value
  | p :: ls, u :: us => .int .i64 p.1 :: u :: lineCells ls us
  | _, _ => []
theorem lineCells_snoc : ∀ (ls : List (Nat × List (List UInt8))) (us : List Value) (p : Nat × List (List UInt8)) (u : Value), us.length = ls.length → lineCells (ls ++ [p]) (us ++ [u]) = lineCells ls us ++ [.int .i64 p.1, u]
  | [], [], _, _, _ => rfl
  | p :: ls, u :: us, q, v, h => by
    simp only [List.cons_append, lineCells]
    rw [lineCells_snoc ls us q v (by simpa using h)]
theorem lineCells_at : ∀ (ls : List (Nat × List (List UInt8))) (us : List Value) (j : Nat) (p : Nat × List (List UInt8)) (u : Value), ls[j]? = some p → us[j]? = some u → (lineCells ls us)[j * 2]? = some (.int .i64 p.1) ∧ (lineCells ls us)[j * 2 + 1]? = some u
  | p :: ls, u :: us, 0, q, v, h1, h2 => by
    simp at h1 h2
    subst h1 h2
    exact ⟨rfl, rfl⟩
  | p :: ls, u :: us, j + 1, q, v, h1, h2 => by
    have := lineCells_at ls us j q v (by simpa using h1) (by simpa using h2)
    rw [show (j + 1) * 2 = j * 2 + 1 + 1 by omega]
    simpa [lineCells] using this
/-- a list of lines as it lies in memory -/
def LinesAt (w : World) (v : Value) (ls : List (Nat × List (List UInt8))) : Prop :=
  ls.length ≤ 4611686018427387903 ∧ ∃ a cap, v = .slice a ls.length cap ∧ (ls = [] ∨ ∃ b off, a = some ⟨b, off, none⟩ ∧ b < w.heap.size ∧ ∀ j (p : Nat × List (List UInt8)), ls[j]? = some p → w.cell? ⟨b, off + j * 2, none⟩ = some (.int .i64 p.1) ∧ ∃ u, w.cell? ⟨b, off + j * 2 + 1, none⟩ = some u ∧ StrsAt w u p.2)
theorem LinesAt.below {w w' : World} {v : Value} {ls : List (Nat × List (List UInt8))} (h : LinesAt w v ls) (hb : Below w.heap.size w w') : LinesAt w' v ls := by
  obtain ⟨hl, a, cap, rfl, h⟩ := h
  refine ⟨hl, a, cap, rfl, h.imp id fun ⟨b, off, ha, hlt, hc⟩ => ⟨b, off, ha, Nat.lt_of_lt_of_le hlt hb.size, fun j p e => ?_⟩⟩
  obtain ⟨h1, u, h2, h3⟩ := hc j p e
  exact ⟨(hb.cell (p := ⟨b, off + j * 2, none⟩) hlt).trans h1, u, (hb.cell (p := ⟨b, off + j * 2 + 1, none⟩) hlt).trans h2, h3.below hb⟩
theorem LinesAt.nil (w : World) : LinesAt w (.slice none 0 0) [] := ⟨by decide, none, 0, rfl, .inl rfl⟩
/-- a list of lines that the call owns -/
structure LOwn (w : World) (B : Nat) (v : Value) (ls : List (Nat × List (List UInt8))) (us : List Value) : Prop where
  len : us.length = ls.length
  own : w.ownsRow B 35 2 v ls.length (lineCells ls us)
  strs : ∀ (j : Nat) (u : Value) (p : Nat × List (List UInt8)), us[j]? = some u → ls[j]? = some p → StrsAt w u p.2 ∧ ∀ b, u.ownBlock = some b → v.ownBlock ≠ some b
theorem LOwn.nil (w : World) (B : Nat) : LOwn w B (.slice none 0 0) [] [] := ⟨rfl, World.ownsRow_nil _ _ _ _, fun j u p h => by simp at h⟩
theorem LOwn.below {w w' : World} {B : Nat} {v : Value} {ls : List (Nat × List (List UInt8))} {us : List Value} (h : LOwn w B v ls us) (hb : Below w.heap.size w w') : LOwn w' B v ls us :=
  ⟨h.len, own_below h.own hb, fun j u p h1 h2 => ⟨(h.strs j u p h1 h2).1.below hb, (h.strs j u p h1 h2).2⟩⟩
theorem StrsAt.block {w : World} {u : Value} {xs : List (List UInt8)} (h : StrsAt w u xs) (hne : xs ≠ []) {b : Nat} (hb : u.ownBlock = some b) : b < w.heap.size := by
  obtain ⟨hl, a, cap, rfl, h⟩ := h
  rcases h with h | ⟨b', off, rfl, hlt, _⟩
  · exact absurd h hne
  · simp only [Value.ownBlock, Option.some.injEq] at hb
    subst hb; exact hlt
theorem LOwn.app {w w2 : World} {B : Nat} {v : Value} {ls : List (Nat × List (List UInt8))} {us : List Value} {p : Nat × List (List UInt8)} {u : Value} {g cap : Nat} {o : Obj} (h : LOwn w B v ls us) (hne : ∀ q ∈ ls, q.2 ≠ []) (hp : p.2 ≠ []) (hu : StrsAt w u p.2)
    (hub : ∀ b, u.ownBlock = some b → v.ownBlock ≠ some b) (hg : (w.alloc o).grownBy w2 v.ownBlock) (hat : v.ownBlock = some g ∨ g = w.heap.size + 1)
    (hown : w2.ownsRow B 35 2 (.slice (some ⟨g, 0, none⟩) (ls.length + 1) cap) (ls.length + 1) (lineCells ls us ++ [.int .i64 p.1, u])) :
    LOwn w2 B (.slice (some ⟨g, 0, none⟩) (ls.length + 1) cap) (ls ++ [p]) (us ++ [u]) := by
  have hba : Below w.heap.size w (w.alloc o) := (Below.refl _ _).alloc (Nat.le_refl _) o
  have key : ∀ u' q, StrsAt w u' q → q ≠ [] → (∀ b, u'.ownBlock = some b → v.ownBlock ≠ some b) → StrsAt w2 u' q ∧ ∀ b, u'.ownBlock = some b → some g ≠ some b := fun u' q h1 h2 h3 => by
    refine ⟨(h1.below hba).grown hg h3, fun b hb he => ?_⟩
    have hlt := h1.block h2 hb
    simp only [Option.some.injEq] at he
    subst he
    rcases hat with h4 | h4
    · exact h3 g hb h4
    · omega
  refine ⟨by simp [h.len], by rw [List.length_append, lineCells_snoc _ _ _ _ h.len]; exact hown, fun j u' q h1 h2 => ?_⟩
  show StrsAt w2 u' q.2 ∧ ∀ b, u'.ownBlock = some b → some g ≠ some b
  by_cases hj : j < ls.length
  · rw [List.getElem?_append_left (by rw [h.len]; exact hj)] at h1
    rw [List.getElem?_append_left hj] at h2
    have h3 := h.strs j u' q h1 h2
    exact key u' q.2 h3.1 (hne q (List.mem_of_getElem? h2)) h3.2
  · rw [List.getElem?_append_right (by rw [h.len]; omega), h.len] at h1
    rw [List.getElem?_append_right (by omega)] at h2
    have hz : j - ls.length = 0 := by
      rcases Nat.eq_zero_or_pos (j - ls.length) with h4 | h4
      · exact h4
      · rw [List.getElem?_eq_none (by simp; omega)] at h2; cases h2
    rw [hz] at h1 h2
    simp at h1 h2
    subst h1 h2
    exact key _ _ hu hp hub
theorem LOwn.at {w : World} {B : Nat} {v : Value} {ls : List (Nat × List (List UInt8))} {us : List Value} (h : LOwn w B v ls us) (hl : ls.length ≤ 4611686018427387903) : LinesAt w v ls := by
  refine ⟨hl, ?_⟩
  have hc := fun g (hg : v.ownBlock = some g) => h.own.cells hg
  have hlt := h.own.lt
  have hs := h.strs
  have hlen := h.len
  rcases h.own.2 with ⟨rfl, h0⟩ | ⟨g, cap, cur, rfl, _⟩
  · exact ⟨none, 0, by rw [h0], .inl (List.length_eq_zero_iff.1 h0)⟩
  · refine ⟨_, cap, rfl, .inr ⟨g, 0, rfl, (hlt g rfl).2, fun j p e => ?_⟩⟩
    have hj : j < ls.length := by
      rcases Nat.lt_or_ge j ls.length with h1 | h1
      · exact h1
      · rw [List.getElem?_eq_none h1] at e; cases e
    obtain ⟨u, hu⟩ : ∃ u, us[j]? = some u := ⟨_, List.getElem?_eq_getElem (by rw [hlen]; exact hj)⟩
    have hcs := lineCells_at ls us j p u e hu
    have h1 := hc g rfl _ _ hcs.1
    have h2 := hc g rfl _ _ hcs.2
    have hadd : ∀ i, (⟨g, 0, none⟩ : Addr).add i = ⟨g, 0 + i, none⟩ := fun i => by simp only [Addr.add]; split <;> simp_all
    rw [hadd] at h1 h2
    exact ⟨h1, u, h2, (hs j u p hu e).1⟩
end Go.Proofs.YtmaiillomoehgaaDoor
