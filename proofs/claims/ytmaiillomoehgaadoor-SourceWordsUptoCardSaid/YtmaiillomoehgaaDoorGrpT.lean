/- SplM Lns Lin2 Lin3 Str PrtM Prt Sane10 in one text -/
import Derived.Test.YtmaiillomoehgaaDoorGrpR
import Derived.Test.YtmaiillomoehgaaDoorShelf
import Derived.Lib.SplitLaws
import Derived.Lib.IndexBytes
import Derived.Deep.AppendLies
import Derived.Test.YtmaiillomoehgaaDoorGrpP
import Derived.Test.YtmaiillomoehgaaDoorGrpQ
set_option linter.unusedVariables false
set_option linter.unusedSimpArgs false
/- strings.Split at a separator of one byte gives the parts. -/
namespace Go.Proofs.YtmaiillomoehgaaDoor
open Go.RowKit
theorem indexByte_at (l1 : List UInt8) (c : UInt8) (l2 : List UInt8) (h : ∀ x ∈ l1, x ≠ c) : Lib.indexByte (l1 ++ c :: l2) c = l1.length := by
  induction l1 with
  | nil => simp [Lib.indexByte]
  | cons b l ih =>
    have hb : (b == c) = false := by simpa using h b (by simp)
    have hi := ih (fun x hx => h x (by simp [hx]))
    simp only [List.cons_append, Lib.indexByte, hb, hi]
    simp
theorem splitK_parts (c : UInt8) (n : Nat) : ∀ l : List UInt8, l.length ≤ n → Lib.splitK [c] 0 (l.count c) l = partsL c l := by
  induction n with
  | zero => intro l h; rw [List.length_eq_zero_iff.1 (Nat.le_zero.1 h)]; rfl
  | succ n ih =>
    intro l h
    cases hp : partsL c l with
    | nil => exact absurd hp (partsL_ne c l)
    | cons x t =>
      cases t with
      | nil =>
        obtain ⟨rfl, hx⟩ := partsL_one c l x hp
        rw [List.count_eq_zero_of_not_mem (fun hm => hx c hm rfl)]
        rfl
      | cons y t =>
        obtain ⟨l', rfl, h1, h2⟩ := partsL_more c l x y t hp
        have hc : (x ++ c :: l').count c = l'.count c + 1 := by
          rw [List.count_append, List.count_cons_self, List.count_eq_zero_of_not_mem (fun hm => h2 c hm rfl)]; omega
        rw [hc, Lib.splitK, Lib.index_one, indexByte_at x c l' h2, if_neg (by rw [beq_iff_eq]; omega), Int.toNat_natCast, Nat.add_zero, List.take_left]
        rw [show x.length + [c].length = x.length + 1 by rfl, ← List.drop_drop, List.drop_left, List.drop_succ_cons, List.drop_zero]
        rw [ih l' (by simp at h; omega), h1]
theorem map_bytes (xs : List ByteArray) : xs = (xs.map (·.data.toList)).map fun l => ⟨l.toArray⟩ := by
  rw [List.map_map]
  conv => lhs; rw [← List.map_id xs]
  apply List.map_congr_left
  intro b _
  exact list_bytes b _ rfl
theorem split_cells (s : ByteArray) (c : UInt8) : (Lib.splitB ⟨#[c]⟩ 0 (Lib.countB s ⟨#[c]⟩) s).map Value.string = strCells (partsL c s.data.toList) ∧ Lib.countB s ⟨#[c]⟩ + 1 = (partsL c s.data.toList).length := by
  have hk : Lib.countB s ⟨#[c]⟩ = s.data.toList.count c := Lib.count_one c s.data.toList
  have hd := Lib.splitB_data ⟨#[c]⟩ 0 (Lib.countB s ⟨#[c]⟩) s
  rw [show (⟨#[c]⟩ : ByteArray).data.toList = [c] by rfl, hk, splitK_parts c _ _ (Nat.le_refl _)] at hd
  refine ⟨?_, ?_⟩
  · rw [hk, map_bytes (Lib.splitB ⟨#[c]⟩ 0 (s.data.toList.count c) s), hd, strCells, List.map_map]
    rfl
  · rw [hk]
    have h1 := splitK_parts c _ s.data.toList (Nat.le_refl _)
    rw [← h1]
    have h2 : ∀ (n : Nat) (l : List UInt8), l.length ≤ n → (Lib.splitK [c] 0 (l.count c) l).length = l.count c + 1 := by
      intro n
      induction n with
      | zero => intro l h; rw [List.length_eq_zero_iff.1 (Nat.le_zero.1 h)]; rfl
      | succ n ih =>
        intro l h
        cases hp : partsL c l with
        | nil => exact absurd hp (partsL_ne c l)
        | cons x t =>
          cases t with
          | nil =>
            obtain ⟨rfl, hx⟩ := partsL_one c l x hp
            rw [List.count_eq_zero_of_not_mem (fun hm => hx c hm rfl)]
            rfl
          | cons y t =>
            obtain ⟨l', rfl, h1, h2⟩ := partsL_more c l x y t hp
            have hc : (x ++ c :: l').count c = l'.count c + 1 := by
              rw [List.count_append, List.count_cons_self, List.count_eq_zero_of_not_mem (fun hm => h2 c hm rfl)]; omega
            rw [hc, Lib.splitK, Lib.index_one, indexByte_at x c l' h2, if_neg (by rw [beq_iff_eq]; omega), Int.toNat_natCast, Nat.add_zero, List.length_cons]
            rw [show x.length + [c].length = x.length + 1 by rfl, ← List.drop_drop, List.drop_left, List.drop_succ_cons, List.drop_zero]
            rw [ih l' (by simp at h; omega)]
    exact (h2 _ _ (Nat.le_refl _)).symm
/-- internal/bytealg.MaxLen holds a number -/
def ML (w : World) : Prop := ∃ m : Int, w.cell? ⟨0, 0, none⟩ = some (.int .i64 m)
theorem ML.below {w w' : World} (h : ML w) (hb : Below w.heap.size w w') : ML w' := by
  obtain ⟨m, hm⟩ := h
  exact ⟨m, (hb.cell (p := ⟨0, 0, none⟩) (World.block_lt_of_cell? w _ hm)).trans hm⟩
theorem strings_Split1 (s : ByteArray) (c : UInt8) (hs : s.size < 4294967281) (w : World) (hm : ML w) :
    Calls Tryd.prog 32 #[.string s, .string ⟨#[c]⟩] w fun e w' =>
      e = .returned (.slice (some ⟨w.heap.size, 0, none⟩) (partsL c s.data.toList).length (partsL c s.data.toList).length) ∧ w' = w.alloc (.cells (strCells (partsL c s.data.toList)).toArray 9) := by
  obtain ⟨m, hm⟩ := hm
  have h := Tryd.strings_Split s ⟨#[c]⟩ m w hs hm (by show 1 ≤ #[c].size; simp)
  rw [(split_cells s c).1, (split_cells s c).2] at h
  exact h
theorem parts_le (c : UInt8) (l : List UInt8) : ∀ x ∈ partsL c l, x.length ≤ l.length := by
  induction l with
  | nil => intro x hx; simp [partsL] at hx; subst hx; simp
  | cons b l ih =>
    intro x hx
    rw [partsL] at hx
    split at hx
    · simp at hx
      rcases hx with rfl | hx
      · simp
      · have := ih x hx; simp; omega
    · cases hp : partsL c l with
      | nil => exact absurd hp (partsL_ne c l)
      | cons a t =>
        rw [hp] at hx ih
        simp [glueL] at hx
        rcases hx with rfl | hx
        · have := ih a (by simp); simp; omega
        · have := ih x (by simp [hx]); simp; omega
end Go.Proofs.YtmaiillomoehgaaDoor
/- Lists of lines in memory. -/
namespace Go.Proofs.YtmaiillomoehgaaDoor
open Go.RowKit
theorem infoLine : (Tryd.prog.info? 35).map (fun i => (i.zero, i.size, i.bytes)) = some (some (.agg #[.int .i64 0, .slice none 0 0]), 2, 32) := by kernel_rfl
theorem StrsAt.grown {w w' : World} {row : Option Nat} {u : Value} {xs : List (List UInt8)} (h : StrsAt w u xs) (hg : w.grownBy w' row) (hne : ∀ b, u.ownBlock = some b → row ≠ some b) : StrsAt w' u xs := by
  obtain ⟨hl, a, cap, rfl, h⟩ := h
  refine ⟨hl, a, cap, rfl, h.imp id fun ⟨b, off, ha, hlt, hc⟩ => ⟨b, off, ha, Nat.lt_of_lt_of_le hlt hg.size, fun j l e => ?_⟩⟩
  subst ha
  exact (hg.cell_far ⟨b, off + j, none⟩ hlt (fun h => hne b rfl h.symm)).trans (hc j l e)
def lineCells : List (Nat × List (List UInt8)) → List Value → List Value
  | p :: ls, u :: us => .int .i64 p.1 :: u :: lineCells ls us
  | _, _ => []
theorem lineCells_snoc : ∀ (ls : List (Nat × List (List UInt8))) (us : List Value) (p : Nat × List (List UInt8)) (u : Value), us.length = ls.length → lineCells (ls ++ [p]) (us ++ [u]) = lineCells ls us ++ [.int .i64 p.1, u]
  | [], [], _, _, _ => rfl
  | p :: ls, u :: us, q, v, h => by
    simp only [List.cons_append, lineCells]
    rw [lineCells_snoc ls us q v (by simpa using h)]
theorem lineCells_at : ∀ (ls : List (Nat × List (List UInt8))) (us : List Value) (j : Nat) (p : Nat × List (List UInt8)) (u : Value), ls[j]? = some p → us[j]? = some u → (lineCells ls us)[j * 2]? = some (.int .i64 p.1) ∧ (lineCells ls us)[j * 2 + 1]? = some u
  | p :: ls, u :: us, 0, q, v, h1, h2 => by
    simp at h1 h2
    subst h1 h2
    exact ⟨rfl, rfl⟩
  | p :: ls, u :: us, j + 1, q, v, h1, h2 => by
    have := lineCells_at ls us j q v (by simpa using h1) (by simpa using h2)
    rw [show (j + 1) * 2 = j * 2 + 1 + 1 by omega]
    simpa [lineCells] using this
/-- a list of lines as it lies in memory -/
def LinesAt (w : World) (v : Value) (ls : List (Nat × List (List UInt8))) : Prop :=
  ls.length ≤ 4611686018427387903 ∧ ∃ a cap, v = .slice a ls.length cap ∧ (ls = [] ∨ ∃ b off, a = some ⟨b, off, none⟩ ∧ b < w.heap.size ∧ ∀ j (p : Nat × List (List UInt8)), ls[j]? = some p → w.cell? ⟨b, off + j * 2, none⟩ = some (.int .i64 p.1) ∧ ∃ u, w.cell? ⟨b, off + j * 2 + 1, none⟩ = some u ∧ StrsAt w u p.2)
theorem LinesAt.below {w w' : World} {v : Value} {ls : List (Nat × List (List UInt8))} (h : LinesAt w v ls) (hb : Below w.heap.size w w') : LinesAt w' v ls := by
  obtain ⟨hl, a, cap, rfl, h⟩ := h
  refine ⟨hl, a, cap, rfl, h.imp id fun ⟨b, off, ha, hlt, hc⟩ => ⟨b, off, ha, Nat.lt_of_lt_of_le hlt hb.size, fun j p e => ?_⟩⟩
  obtain ⟨h1, u, h2, h3⟩ := hc j p e
  exact ⟨(hb.cell (p := ⟨b, off + j * 2, none⟩) hlt).trans h1, u, (hb.cell (p := ⟨b, off + j * 2 + 1, none⟩) hlt).trans h2, h3.below hb⟩
theorem LinesAt.nil (w : World) : LinesAt w (.slice none 0 0) [] := ⟨by decide, none, 0, rfl, .inl rfl⟩
/-- a list of lines that the call owns -/
structure LOwn (w : World) (B : Nat) (v : Value) (ls : List (Nat × List (List UInt8))) (us : List Value) : Prop where
  len : us.length = ls.length
  own : w.ownsRow B 35 2 v ls.length (lineCells ls us)
  strs : ∀ (j : Nat) (u : Value) (p : Nat × List (List UInt8)), us[j]? = some u → ls[j]? = some p → StrsAt w u p.2 ∧ ∀ b, u.ownBlock = some b → v.ownBlock ≠ some b
theorem LOwn.nil (w : World) (B : Nat) : LOwn w B (.slice none 0 0) [] [] := ⟨rfl, World.ownsRow_nil _ _ _ _, fun j u p h => by simp at h⟩
theorem LOwn.below {w w' : World} {B : Nat} {v : Value} {ls : List (Nat × List (List UInt8))} {us : List Value} (h : LOwn w B v ls us) (hb : Below w.heap.size w w') : LOwn w' B v ls us :=
  ⟨h.len, own_below h.own hb, fun j u p h1 h2 => ⟨(h.strs j u p h1 h2).1.below hb, (h.strs j u p h1 h2).2⟩⟩
theorem StrsAt.block {w : World} {u : Value} {xs : List (List UInt8)} (h : StrsAt w u xs) (hne : xs ≠ []) {b : Nat} (hb : u.ownBlock = some b) : b < w.heap.size := by
  obtain ⟨hl, a, cap, rfl, h⟩ := h
  rcases h with h | ⟨b', off, rfl, hlt, _⟩
  · exact absurd h hne
  · simp only [Value.ownBlock, Option.some.injEq] at hb
    subst hb; exact hlt
theorem LOwn.app {w w2 : World} {B : Nat} {v : Value} {ls : List (Nat × List (List UInt8))} {us : List Value} {p : Nat × List (List UInt8)} {u : Value} {g cap : Nat} {o : Obj} (h : LOwn w B v ls us) (hne : ∀ q ∈ ls, q.2 ≠ []) (hp : p.2 ≠ []) (hu : StrsAt w u p.2)
    (hub : ∀ b, u.ownBlock = some b → v.ownBlock ≠ some b) (hg : (w.alloc o).grownBy w2 v.ownBlock) (hat : v.ownBlock = some g ∨ g = w.heap.size + 1)
    (hown : w2.ownsRow B 35 2 (.slice (some ⟨g, 0, none⟩) (ls.length + 1) cap) (ls.length + 1) (lineCells ls us ++ [.int .i64 p.1, u])) :
    LOwn w2 B (.slice (some ⟨g, 0, none⟩) (ls.length + 1) cap) (ls ++ [p]) (us ++ [u]) := by
  have hba : Below w.heap.size w (w.alloc o) := (Below.refl _ _).alloc (Nat.le_refl _) o
  have key : ∀ u' q, StrsAt w u' q → q ≠ [] → (∀ b, u'.ownBlock = some b → v.ownBlock ≠ some b) → StrsAt w2 u' q ∧ ∀ b, u'.ownBlock = some b → some g ≠ some b := fun u' q h1 h2 h3 => by
    refine ⟨(h1.below hba).grown hg h3, fun b hb he => ?_⟩
    have hlt := h1.block h2 hb
    simp only [Option.some.injEq] at he
    subst he
    rcases hat with h4 | h4
    · exact h3 g hb h4
    · omega
  refine ⟨by simp [h.len], by rw [List.length_append, lineCells_snoc _ _ _ _ h.len]; exact hown, fun j u' q h1 h2 => ?_⟩
  show StrsAt w2 u' q.2 ∧ ∀ b, u'.ownBlock = some b → some g ≠ some b
  by_cases hj : j < ls.length
  · rw [List.getElem?_append_left (by rw [h.len]; exact hj)] at h1
    rw [List.getElem?_append_left hj] at h2
    have h3 := h.strs j u' q h1 h2
    exact key u' q.2 h3.1 (hne q (List.mem_of_getElem? h2)) h3.2
  · rw [List.getElem?_append_right (by rw [h.len]; omega), h.len] at h1
    rw [List.getElem?_append_right (by omega)] at h2
    have hz : j - ls.length = 0 := by
      rcases Nat.eq_zero_or_pos (j - ls.length) with h4 | h4
      · exact h4
      · rw [List.getElem?_eq_none (by simp; omega)] at h2; cases h2
    rw [hz] at h1 h2
    simp at h1 h2
    subst h1 h2
    exact key _ _ hu hp hub
theorem LOwn.at {w : World} {B : Nat} {v : Value} {ls : List (Nat × List (List UInt8))} {us : List Value} (h : LOwn w B v ls us) (hl : ls.length ≤ 4611686018427387903) : LinesAt w v ls := by
  refine ⟨hl, ?_⟩
  have hc := fun g (hg : v.ownBlock = some g) => h.own.cells hg
  have hlt := h.own.lt
  have hs := h.strs
  have hlen := h.len
  rcases h.own.2 with ⟨rfl, h0⟩ | ⟨g, cap, cur, rfl, _⟩
  · exact ⟨none, 0, by rw [h0], .inl (List.length_eq_zero_iff.1 h0)⟩
  · refine ⟨_, cap, rfl, .inr ⟨g, 0, rfl, (hlt g rfl).2, fun j p e => ?_⟩⟩
    have hj : j < ls.length := by
      rcases Nat.lt_or_ge j ls.length with h1 | h1
      · exact h1
      · rw [List.getElem?_eq_none h1] at e; cases e
    obtain ⟨u, hu⟩ : ∃ u, us[j]? = some u := ⟨_, List.getElem?_eq_getElem (by rw [hlen]; exact hj)⟩
    have hcs := lineCells_at ls us j p u e hu
    have h1 := hc g rfl _ _ hcs.1
    have h2 := hc g rfl _ _ hcs.2
    have hadd : ∀ i, (⟨g, 0, none⟩ : Addr).add i = ⟨g, 0 + i, none⟩ := fun i => by simp only [Addr.add]; split <;> simp_all
    rw [hadd] at h1 h2
    exact ⟨h1, u, h2, (hs j u p hu e).1⟩
end Go.Proofs.YtmaiillomoehgaaDoor
/- Walks of package source: Lines. -/
namespace Go.Proofs.YtmaiillomoehgaaDoor
open Go.RowKit
theorem own_lines_ne {ls : List (Nat × List (List UInt8))} {i : Nat} {x : List (List UInt8)} (h : ∀ q ∈ ls, q.2 ≠ []) (hx : x ≠ []) : ∀ q ∈ ls ++ [(i, x)], q.2 ≠ [] := by
  intro q hq
  rw [List.mem_append] at hq
  rcases hq with hq | hq
  · exact h q hq
  · rw [List.mem_singleton.1 hq]; exact hx
theorem src_wordsS (s : ByteArray) (hs : s.size ≤ 4398046511104) (w : World) :
    Calls Tryd.prog 34 #[.string s] w fun e w' => ∃ a cap, e = .returned (.slice a (wordsL s.data.toList).length cap) ∧ StrsAt w' (.slice a (wordsL s.data.toList).length cap) (wordsL s.data.toList) ∧
      (∀ b, (Value.slice a (wordsL s.data.toList).length cap).ownBlock = some b → w.heap.size ≤ b) ∧ Below w.heap.size w w' := by
  refine (src_words s hs w).mono fun e w' ⟨v, he, hown, hb⟩ => ?_
  have hl : (wordsL s.data.toList).length ≤ 9223372036854775807 := by
    have := wGo_len s.data.toList []
    rw [← size_len] at this
    simp only [List.length_nil] at this
    unfold wordsL; omega
  have hat := StrsAt.of_own hown hl
  have hlt := hown.lt
  obtain ⟨_, a, cap, rfl, _⟩ := hat
  exact ⟨a, cap, he, StrsAt.of_own hown hl, fun b h => (hlt b h).1, hb⟩
set_option maxHeartbeats 8000000 in
theorem src_Lines (s : ByteArray) (hs : s.size ≤ maxLen) {r : List (Nat × List (List UInt8)) × Int × Int} (hr : linesL s.data.toList = r) (w : World) (hml : ML w) :
    Calls Tryd.prog 17 #[.string s] w fun e w' => ∃ v, e = .returned (.tuple #[v, .int .i64 r.2.1, .int .i64 r.2.2]) ∧ LinesAt w' v r.1 ∧ Below w.heap.size w w' := by
  unfold maxLen at hs
  have HR := Lib.hid hr
  have HL := Lib.hid (size_len s)
  clear hr
  by_cases hbig : 16384 < s.size
  · have : r = ([], 0, 3) := by rw [← HR.out, linesL, if_pos (by rw [← HL.out]; exact hbig)]
    subst this
    go_enter Tryd.func17, Tryd.ntmps17
    go_wp2
    go_ret3
    exact ⟨_, rfl, LinesAt.nil _, Below.refl _ _⟩
  · obtain ⟨n, hn⟩ : ∃ n, (partsL 10 s.data.toList).length = n := ⟨_, rfl⟩
    have hr2 : linesR (partsL 10 s.data.toList) 0 [] = r := by have := HR.out; rwa [linesL, if_neg (by rw [← HL.out]; exact hbig)] at this
    have hnl : n ≤ 16385 := by have := partsL_len 10 s.data.toList; rw [← HL.out] at this; omega
    have hpl : ∀ x ∈ partsL 10 s.data.toList, x.length ≤ 16384 := fun x hx => by have := parts_le 10 s.data.toList x hx; rw [← HL.out] at this; omega
    have hsp : ∀ w, ML w → Calls Tryd.prog 32 #[.string s, .string ⟨#[10]⟩] w fun e w' => e = .returned (.slice (some ⟨w.heap.size, 0, none⟩) n n) ∧ w' = w.alloc (.cells (strCells (partsL 10 s.data.toList)).toArray 9) := fun w hm => by
      have h := strings_Split1 s 10 (by omega) w hm
      rw [hn] at h
      exact h
    generalize partsL 10 s.data.toList = ps at *
    have HN := Lib.hid hn
    have HPL := Lib.hid hpl
    have HSP := Lib.hid hsp
    have HR2 := Lib.hid hr2
    have HML := Lib.hid hml
    clear hn hpl hsp hr2 hml HR
    go_enter Tryd.func17, Tryd.ntmps17
    go_wp2_with (go_at_call 32; refine (HSP.out _ HML.out).mono ?_; rintro e w1 ⟨rfl, hw1'⟩; have HW1 := Lib.hid hw1'; clear hw1')
    have hw1 := HW1.out
    have hb1 : Below w.heap.size w w1 := by rw [hw1]; ((repeat (first | exact Below.refl _ _ | refine Below.drew ?_ | refine Below.setCell ?_ (by first | (simp; done) | (simp; omega) | omega) _ | refine Below.alloc ?_ (by first | (simp; done) | (simp; omega) | omega) _)); done)
    have hc1 : ∀ (j : Nat) (l : List UInt8), ps[j]? = some l → w1.cell? ⟨w.heap.size, j, none⟩ = some (.string ⟨l.toArray⟩) := fun j l h => by
      rw [hw1, World.cell?_alloc_at _ _ _ _ rfl]
      simp [strCells, h]
    have hs1 : w.heap.size + 1 ≤ w1.heap.size := by rw [hw1]; simp
    have HB1 := Lib.hid hb1
    have HC1 := Lib.hid hc1
    clear hw1 HW1 hb1 hc1
    go_loopw [5, 15] (fun v i wr => ∃ (k : Nat) (ls : List (Nat × List (List UInt8))) (us : List Value), k ≤ n ∧ i = .int .i64 k ∧ LOwn wr (w.heap.size + 1) v ls us ∧ (∀ q ∈ ls, q.2 ≠ []) ∧ ls.length ≤ k ∧ linesR (ps.drop k) k ls = r ∧ Below (w.heap.size + 1) w1 wr)
      (fun _ i _ => n - (intOf i).toNat)
    case atStart => exact ⟨0, [], [], by omega, rfl, LOwn.nil _ _, fun q h => by simp at h, by simp, HR2.out, Below.refl _ _⟩
    case round =>
      obtain ⟨k, ls, us, hk, rfl, hlo, hne, hlk, hrd, hb⟩ := hrel
      have HLO := Lib.hid hlo
      have HNE := Lib.hid hne
      have HB := Lib.hid hb
      have hsz := hb.size
      by_cases hlt : k < n
      · obtain ⟨l, hkl⟩ : ∃ l, ps[k]? = some l := ⟨_, List.getElem?_eq_getElem (by rw [HN.out]; exact hlt)⟩
        have hdr : ps.drop k = l :: ps.drop (k + 1) := by
          rw [List.drop_eq_getElem_cons (by rw [HN.out]; exact hlt)]
          rw [List.getElem?_eq_getElem (by rw [HN.out]; exact hlt)] at hkl
          rw [Option.some.inj hkl]
        rw [hdr, linesR] at hrd
        have hll := HPL.out l (List.mem_of_getElem? hkl)
        obtain ⟨sl, hsl⟩ : ∃ sl : ByteArray, sl = ⟨l.toArray⟩ := ⟨_, rfl⟩
        have c0 : wr.cell? ⟨w.heap.size, k, none⟩ = some (.string sl) := by rw [hsl]; exact (hb.cell (p := ⟨w.heap.size, k, none⟩) (by dsimp only; omega)).trans (HC1.out k l hkl)
        have z0 : w.heap.size < wr.heap.size := by omega
        have hss : sl.size ≤ 16384 := by rw [hsl, size_list]; exact hll
        have HSL : Hid (sl.data.toList = l) := Lib.hid (by rw [hsl])
        have hltI : (k : Int) < (n : Int) := by omega
        have HRD := Lib.hid hrd
        clear hkl hdr hrd hll hsl hlo hne hb
        obtain ⟨pb, hpb⟩ : ∃ b, l.all prC = b := ⟨_, rfl⟩
        have HPB : Hid (sl.data.toList.all prC = pb) := Lib.hid (by rw [HSL.out]; exact hpb)
        cases pb
        · have : r = ([], (k : Int) + 1, 4) := by rw [← HRD.out, if_pos hpb]
          subst this
          clear hpb
          go_wp2_with (go_at_call 33; refine (src_printable sl (by unfold maxLen; omega) HPB.out _).mono ?_; rintro e w' ⟨rfl, rfl⟩)
          go_ret3
          exact ⟨_, rfl, LinesAt.nil _, HB1.out.trans (HB.out.mono (by omega))⟩
        · have HR3 : Hid ((if 64 < (wordsL l).length then (([], (k : Int) + 1, 3) : List (Nat × List (List UInt8)) × Int × Int) else linesR (ps.drop (k + 1)) (k + 1) (if wordsL l = [] then ls else ls ++ [(k + 1, wordsL l)])) = r) := Lib.hid (by have h := HRD.out; rwa [if_neg (by rw [hpb]; simp)] at h)
          clear hpb HRD
          obtain ⟨wl, hwl⟩ : ∃ wl, wordsL l = wl := ⟨_, rfl⟩
          rw [hwl] at HR3
          have hsw : ∀ w, Calls Tryd.prog 34 #[.string sl] w fun e w' => ∃ a cap, e = .returned (.slice a wl.length cap) ∧ StrsAt w' (.slice a wl.length cap) wl ∧ (∀ b, (Value.slice a wl.length cap).ownBlock = some b → w.heap.size ≤ b) ∧ Below w.heap.size w w' := fun w => by
            have h := src_wordsS sl (by omega) w
            rw [HSL.out, hwl] at h
            exact h
          have hwll : wl.length ≤ 16384 := by
            have := wGo_len l []
            rw [← hwl]; unfold wordsL
            have h2 : l.length ≤ 16384 := by rw [← HSL.out, ← size_len]; exact hss
            simp only [List.length_nil] at this; omega
          have HSW := Lib.hid hsw
          clear hsw hwl
          by_cases h64 : 64 < wl.length
          · have : r = ([], (k : Int) + 1, 3) := by rw [← HR3.out, if_pos h64]
            subst this
            go_wp2_with (first | (go_at_call 33; refine (src_printable sl (by unfold maxLen; omega) HPB.out _).mono ?_; rintro e w' ⟨rfl, rfl⟩) | (go_at_call 34; refine (HSW.out _).mono ?_; rintro e w2 ⟨a8, c8, rfl, hst8, hbl8, hb2⟩))
            go_ret3
            exact ⟨_, rfl, LinesAt.nil _, HB1.out.trans ((HB.out.mono (by omega)).trans (hb2.mono (by omega)))⟩
          · have HR4 : Hid (linesR (ps.drop (k + 1)) (k + 1) (if wl = [] then ls else ls ++ [(k + 1, wl)]) = r) := Lib.hid (by have h := HR3.out; rwa [if_neg h64] at h)
            clear HR3
            by_cases h0 : wl.length = 0
            · obtain rfl := List.length_eq_zero_iff.1 h0
              have HR5 : Hid (linesR (ps.drop (k + 1)) (k + 1) ls = r) := Lib.hid (by have := HR4.out; rwa [if_pos rfl] at this)
              clear h0 HR4
              go_wp2_with (first | (go_at_call 33; refine (src_printable sl (by unfold maxLen; omega) HPB.out _).mono ?_; rintro e w' ⟨rfl, rfl⟩) | (go_at_call 34; refine (HSW.out _).mono ?_; rintro e w2 ⟨a8, c8, rfl, hst8, hbl8, hb2⟩))
              go_roundw
              case rel => exact ⟨k + 1, ls, us, by omega, by go_num, HLO.out.below hb2, HNE.out, by omega, HR5.out, HB.out.trans (hb2.mono (by omega))⟩
              case measure => simp [intOf]; omega
            · have hwn : wl ≠ [] := fun h => h0 (by rw [h]; rfl)
              have HR5 : Hid (linesR (ps.drop (k + 1)) (k + 1) (ls ++ [(k + 1, wl)]) = r) := Lib.hid (by have := HR4.out; rwa [if_neg hwn] at this)
              have HWN := Lib.hid hwn
              have hpos : 0 < wl.length := by omega
              obtain ⟨i0, hi0, hz0, hz1, hz2⟩ := info_parts infoLine
              clear HR4 hwn h0
              go_wp2_with (first | (go_at_call 33; refine (src_printable sl (by unfold maxLen; omega) HPB.out _).mono ?_; rintro e w' ⟨rfl, rfl⟩) | (go_at_call 34; refine (HSW.out _).mono ?_; rintro e w2 ⟨a8, c8, rfl, hst8, hbl8, hb2⟩; have HST8 := Lib.hid hst8; have HBL8 := Lib.hid hbl8; have hs2 := hb2.size; clear hst8 hbl8) | (at_builtin; refine wpList_append_lies _ rfl _ _ 36 rfl (w.heap.size + 1) 35 i0 (.agg #[.int .i64 0, .slice none 0 0]) 2 32 Tryd.underlying36 hi0 hz0 hz1 hz2 rfl (by decide) _ ls.length (lineCells ls us) (by rfl) ((HLO.out.below hb2).own.alloc _) ⟨w2.heap.size, 0, none⟩ 1 1 [.int .i64 ((k : Int) + 1), .slice a8 wl.length c8] (by rfl) rfl (World.news_of_block (heap_alloc_new w2 _)) (by intro u hu; simp at hu; rcases hu with rfl | rfl <;> rfl) (by omega) (by unfold maxLen; omega) (by omega) (by simp; omega) (w2.heap.size + 1) (by simp) ?_; intro g cap w3 hown3 hgrow hat hlt3))
              have e1 : (((k + 1 : Nat)) : Int) = (k : Int) + 1 := by omega
              have hlo3 := (HLO.out.below hb2).app (p := (k + 1, wl)) (g := g) (cap := cap) HNE.out HWN.out HST8.out (fun b hb hv => by
                have h1 := HBL8.out b hb
                have h2 := (HLO.out.own.lt b hv).2
                omega) hgrow hat (by
                  show w3.ownsRow _ _ _ _ _ (lineCells ls us ++ [.int .i64 ((k + 1 : Nat) : Int), _])
                  rw [e1]; exact hown3)
              have HL3 := Lib.hid hlo3
              have hb3 : Below (w.heap.size + 1) w2 w3 := ((Below.refl _ _).alloc (by omega) _).trans (grown_below ((HLO.out.below hb2).own.alloc _) hgrow (by simp; omega))
              have HB3 := Lib.hid (HB.out.trans ((hb2.mono (by omega)).trans hb3))
              clear e1 hlo3 hb3 hown3 hgrow hat
              go_roundw
              case rel => exact ⟨k + 1, ls ++ [(k + 1, wl)], us ++ [.slice a8 wl.length c8], by omega, by go_num, HL3.out, own_lines_ne HNE.out HWN.out, by simp; omega, HR5.out, HB3.out⟩
              case measure => simp [intOf]; omega
      · obtain rfl : k = n := by omega
        have : r = (ls, 0, 0) := by
          rw [← hrd, List.drop_of_length_le (by rw [HN.out]; exact Nat.le_refl _), linesR]
        subst this
        clear hrd hlo hb hne
        go_wp2
        go_ret3
        exact ⟨_, rfl, HLO.out.at (by omega), HB1.out.trans (HB.out.mono (by omega))⟩
end Go.Proofs.YtmaiillomoehgaaDoor
/- Walks of the reference of package source: Lines. -/
namespace Go.Proofs.YtmaiillomoehgaaDoor
open Go.RowKit
theorem ref_PartsS (s : ByteArray) (c : UInt8) (hs : s.size ≤ 4398046511104) (w : World) :
    Calls Tryd.prog 42 #[.string s, .int .u8 c.toNat] w fun e w' => ∃ g cap, e = .returned (.slice (some ⟨g, 0, none⟩) (partsL c s.data.toList).length cap) ∧ w.heap.size ≤ g ∧ g < w'.heap.size ∧
      (∀ (j : Nat) (l : List UInt8), (partsL c s.data.toList)[j]? = some l → w'.cell? ⟨g, j, none⟩ = some (.string ⟨l.toArray⟩)) ∧ Below w.heap.size w w' := by
  refine (ref_Parts s c hs w).mono fun e w' ⟨v, he, hown, hb⟩ => ?_
  have hc := fun g (hg : v.ownBlock = some g) => hown.cells hg
  have hlt := hown.lt
  rcases hown.2 with ⟨_, h0⟩ | ⟨g, cap, cur, rfl, _⟩
  · exact absurd (List.length_eq_zero_iff.1 h0) (partsL_ne _ _)
  · refine ⟨g, cap, he, (hlt g rfl).1, (hlt g rfl).2, fun j l e => ?_, hb⟩
    have := hc g rfl j (.string ⟨l.toArray⟩) (by simp [strCells, e])
    rwa [show (⟨g, 0, none⟩ : Addr).add j = ⟨g, j, none⟩ by simp only [Addr.add, Nat.zero_add]; split <;> simp_all] at this
theorem ref_wordsS (s : ByteArray) (hs : s.size ≤ 4398046511104) (h35 : ∀ c ∈ s.data.toList, c ≠ 35) (w : World) :
    Calls Tryd.prog 43 #[.string s] w fun e w' => ∃ a cap, e = .returned (.slice a (wordsL s.data.toList).length cap) ∧ StrsAt w' (.slice a (wordsL s.data.toList).length cap) (wordsL s.data.toList) ∧
      (∀ b, (Value.slice a (wordsL s.data.toList).length cap).ownBlock = some b → w.heap.size ≤ b) ∧ Below w.heap.size w w' := by
  refine (ref_words s hs h35 w).mono fun e w' ⟨v, he, hown, hb⟩ => ?_
  have hl : (wordsL s.data.toList).length ≤ 9223372036854775807 := by
    have := wGo_len s.data.toList []
    rw [← size_len] at this
    simp only [List.length_nil] at this
    unfold wordsL; omega
  have hat := StrsAt.of_own hown hl
  have hlt := hown.lt
  obtain ⟨_, a, cap, rfl, _⟩ := hat
  exact ⟨a, cap, he, StrsAt.of_own hown hl, fun b h => (hlt b h).1, hb⟩
theorem take_no (l : List UInt8) : ∀ c ∈ l.takeWhile (fun c => !(c == 35)), c ≠ 35 := fun c hc h => by
  have := List.all_takeWhile (l := l) (p := fun c => !(c == 35))
  rw [List.all_eq_true] at this
  have h1 := this c hc
  rw [h] at h1
  simp at h1
set_option maxRecDepth 100000 in
set_option maxHeartbeats 8000000 in
theorem ref_Lines (s : ByteArray) (hs : s.size ≤ maxLen) {r : List (Nat × List (List UInt8)) × Int × Int} (hr : linesL s.data.toList = r) (w : World) :
    Calls Tryd.prog 31 #[.string s] w fun e w' => ∃ v, e = .returned (.tuple #[v, .int .i64 r.2.1, .int .i64 r.2.2]) ∧ LinesAt w' v r.1 ∧ Below w.heap.size w w' := by
  unfold maxLen at hs
  have HR := Lib.hid hr
  have HL := Lib.hid (size_len s)
  clear hr
  by_cases hbig : 16384 < s.size
  · have : r = ([], 0, 3) := by rw [← HR.out, linesL, if_pos (by rw [← HL.out]; exact hbig)]
    subst this
    go_enter Tryd.func31, Tryd.ntmps31
    go_wp2
    go_ret3
    exact ⟨_, rfl, LinesAt.nil _, Below.refl _ _⟩
  · obtain ⟨n, hn⟩ : ∃ n, (partsL 10 s.data.toList).length = n := ⟨_, rfl⟩
    have hr2 : linesR (partsL 10 s.data.toList) 0 [] = r := by have := HR.out; rwa [linesL, if_neg (by rw [← HL.out]; exact hbig)] at this
    have hnl : n ≤ 16385 := by have := partsL_len 10 s.data.toList; rw [← HL.out] at this; omega
    have hpl : ∀ x ∈ partsL 10 s.data.toList, x.length ≤ 16384 := fun x hx => by have := parts_le 10 s.data.toList x hx; rw [← HL.out] at this; omega
    have hsp : ∀ w, Calls Tryd.prog 42 #[.string s, .int .u8 10] w fun e w' => ∃ g cap, e = .returned (.slice (some ⟨g, 0, none⟩) n cap) ∧ w.heap.size ≤ g ∧ g < w'.heap.size ∧
        (∀ (j : Nat) (l : List UInt8), (partsL 10 s.data.toList)[j]? = some l → w'.cell? ⟨g, j, none⟩ = some (.string ⟨l.toArray⟩)) ∧ Below w.heap.size w w' := fun w => by
      have h := ref_PartsS s 10 (by omega) w
      rw [hn] at h
      exact h
    generalize partsL 10 s.data.toList = ps at *
    have HN := Lib.hid hn
    have HPL := Lib.hid hpl
    have HSP := Lib.hid hsp
    have HR2 := Lib.hid hr2
    clear hn hpl hsp hr2 HR
    go_enter Tryd.func31, Tryd.ntmps31
    go_wp2_with (go_at_call 42; refine (HSP.out _).mono ?_; rintro e w1 ⟨gp, cp, rfl, hgp0, hgp1, hc1, hb1⟩; have HB1 := Lib.hid hb1; have HC1 := Lib.hid hc1; clear hb1 hc1)
    go_loopw [5, 7] (fun v i wr => ∃ (k : Nat) (ls : List (Nat × List (List UInt8))) (us : List Value), k ≤ n ∧ i = .int .i64 k ∧ LOwn wr w1.heap.size v ls us ∧ (∀ q ∈ ls, q.2 ≠ []) ∧ ls.length ≤ k ∧ linesR (ps.drop k) k ls = r ∧ Below w1.heap.size w1 wr)
      (fun _ i _ => n - (intOf i).toNat)
    case atStart => exact ⟨0, [], [], by omega, rfl, LOwn.nil _ _, fun q h => by simp at h, by simp, HR2.out, Below.refl _ _⟩
    case round =>
      obtain ⟨k, ls, us, hk, rfl, hlo, hne, hlk, hrd, hb⟩ := hrel
      have HLO := Lib.hid hlo
      have HNE := Lib.hid hne
      have HB := Lib.hid hb
      have hsz := hb.size
      obtain ⟨wo, rfl⟩ : ∃ wo : World, wo = wr := ⟨_, rfl⟩
      by_cases hlt : k < n
      · obtain ⟨l, hkl⟩ : ∃ l, ps[k]? = some l := ⟨_, List.getElem?_eq_getElem (by rw [HN.out]; exact hlt)⟩
        have hdr : ps.drop k = l :: ps.drop (k + 1) := by
          rw [List.drop_eq_getElem_cons (by rw [HN.out]; exact hlt)]
          rw [List.getElem?_eq_getElem (by rw [HN.out]; exact hlt)] at hkl
          rw [Option.some.inj hkl]
        rw [hdr, linesR] at hrd
        have hll := HPL.out l (List.mem_of_getElem? hkl)
        obtain ⟨sl, hsl⟩ : ∃ sl : ByteArray, sl = ⟨l.toArray⟩ := ⟨_, rfl⟩
        have c0 : wo.cell? ⟨gp, k, none⟩ = some (.string sl) := by rw [hsl]; exact (hb.cell (p := ⟨gp, k, none⟩) hgp1).trans (HC1.out k l hkl)
        have z0 : gp < wo.heap.size := by omega
        have hss : sl.size ≤ 16384 := by rw [hsl, size_list]; exact hll
        have HSL : Hid (sl.data.toList = l) := Lib.hid (by rw [hsl])
        have hltI : (k : Int) < (n : Int) := by omega
        have HRD := Lib.hid hrd
        clear hkl hdr hrd hll hsl hlo hne hb
        go_wp2
        go_loop [8] (fun x => ∃ m : Nat, m ≤ sl.size ∧ x = .int .i64 m ∧ (sl.data.toList.take m).all prC = true) (fun x => sl.size - (intOf x).toNat)
        case atStart => exact ⟨0, by omega, rfl, rfl⟩
        case round =>
          obtain ⟨m, hm, rfl, hd⟩ := hrel
          have HD := Lib.hid hd
          clear hd
          by_cases hlm : m < sl.size
          · have hc8 := UInt8.toNat_lt sl[m]
            have HT := Lib.hid (all_take_succ prC sl m hlm)
            have bad : prC sl[m] = false → r = ([], (k : Int) + 1, 4) := fun h => by
              have h1 : l.all prC = false := by rw [← HSL.out]; exact all_split _ _ (m + 1) (by rw [HT.out, h, Bool.and_false])
              rw [← HRD.out, if_pos h1]
            have BAD := Lib.hid bad
            clear bad
            by_cases h9 : sl[m].toNat = 9
            · have HG : Hid (prC sl[m] = true) := Lib.hid (by simp [prC, h9])
              have g1 := (eqB 9 (show (sl[m].toNat : Int) = 9 by omega)).1
              clear h9
              go_wp2
              go_round
              case rel => exact ⟨m + 1, by omega, by go_num, by rw [HT.out, HD.out, HG.out]; rfl⟩
              case measure => simp [intOf]; omega
            · have g1 := (neqB 9 (show (sl[m].toNat : Int) ≠ 9 by omega)).1
              by_cases h32 : sl[m].toNat < 32
              · have : r = ([], (k : Int) + 1, 4) := BAD.out (by simp only [prC, Bool.or_eq_false_iff, Bool.and_eq_false_iff, decide_eq_false_iff_not]; omega)
                subst this
                clear h9
                go_wp2
                go_ret3
                exact ⟨_, rfl, LinesAt.nil _, HB1.out.trans (HB.out.mono HB1.out.size)⟩
              · have g32 : decide ((sl[m].toNat : Int) < 32) = false := by simp only [decide_eq_false_iff_not]; omega
                by_cases h126 : 126 < sl[m].toNat
                · have : r = ([], (k : Int) + 1, 4) := BAD.out (by simp only [prC, Bool.or_eq_false_iff, Bool.and_eq_false_iff, decide_eq_false_iff_not]; omega)
                  subst this
                  clear h9 h32
                  go_wp2
                  go_ret3
                  exact ⟨_, rfl, LinesAt.nil _, HB1.out.trans (HB.out.mono HB1.out.size)⟩
                · have g126 : decide ((126 : Int) < (sl[m].toNat : Int)) = false := by simp only [decide_eq_false_iff_not]; omega
                  have HG : Hid (prC sl[m] = true) := Lib.hid (by simp only [prC, Bool.or_eq_true, Bool.and_eq_true, decide_eq_true_eq]; omega)
                  clear h9 h32 h126
                  go_wp2
                  go_round
                  case rel => exact ⟨m + 1, by omega, by go_num, by rw [HT.out, HD.out, HG.out]; rfl⟩
                  case measure => simp [intOf]; omega
          · obtain rfl : m = sl.size := by omega
            have hall : l.all prC = true := by have := HD.out; rwa [take_full, HSL.out] at this
            have HR3 : Hid ((if 64 < (wordsL l).length then (([], (k : Int) + 1, 3) : List (Nat × List (List UInt8)) × Int × Int) else linesR (ps.drop (k + 1)) (k + 1) (if wordsL l = [] then ls else ls ++ [(k + 1, wordsL l)])) = r) := Lib.hid (by have h := HRD.out; rwa [if_neg (by rw [hall]; simp)] at h)
            clear hall HRD HD hm hlm
            obtain ⟨wl, hwl⟩ : ∃ wl, wordsL l = wl := ⟨_, rfl⟩
            rw [hwl] at HR3
            obtain ⟨sx, hsx⟩ : ∃ sx : ByteArray, sx = ⟨(l.takeWhile fun c => !(c == 35)).toArray⟩ := ⟨_, rfl⟩
            have hsp2 : ∀ w, Calls Tryd.prog 42 #[.string sl, .int .u8 35] w fun e w' => ∃ g m cap, e = .returned (.slice (some ⟨g, 0, none⟩) m cap) ∧ 0 < m ∧ m ≤ 16385 ∧ g < w'.heap.size ∧ w'.cell? ⟨g, 0, none⟩ = some (.string sx) ∧ Below w.heap.size w w' := fun w => by
              refine (ref_PartsS sl 35 (by omega) w).mono fun e w' ⟨g, cap, he, _, h1, h2, h3⟩ => ⟨g, _, cap, he, List.length_pos_iff.2 (partsL_ne _ _), ?_, h1, ?_, h3⟩
              · have := partsL_len 35 sl.data.toList; rw [← size_len] at this; omega
              · rw [hsx]
                refine h2 0 _ ?_
                rw [← parts_head l, HSL.out]
                cases hp : partsL 35 l with
                | nil => exact absurd hp (partsL_ne _ _)
                | cons a t => rfl
            have hxs : sx.size ≤ 16384 := by
              rw [hsx, size_list]
              have h1 : (l.takeWhile fun c => !(c == 35)).length ≤ l.length := (List.takeWhile_sublist _).length_le
              have h2 : l.length ≤ 16384 := by rw [← HSL.out, ← size_len]; exact hss
              omega
            have hsw : ∀ w, Calls Tryd.prog 43 #[.string sx] w fun e w' => ∃ a cap, e = .returned (.slice a wl.length cap) ∧ StrsAt w' (.slice a wl.length cap) wl ∧ (∀ b, (Value.slice a wl.length cap).ownBlock = some b → w.heap.size ≤ b) ∧ Below w.heap.size w w' := fun w => by
              have h := ref_wordsS sx (by omega) (by rw [hsx]; exact take_no l) w
              rw [hsx, List.toList_toArray, show wordsL (l.takeWhile fun c => !(c == 35)) = wl by rw [← hwl]; exact (wGo_hash l []).symm, ← hsx] at h
              exact h
            have hwll : wl.length ≤ 16384 := by
              have := wGo_len l []
              rw [← hwl]; unfold wordsL
              have h2 : l.length ≤ 16384 := by rw [← HSL.out, ← size_len]; exact hss
              simp only [List.length_nil] at this; omega
            have HSW := Lib.hid hsw
            have HSP2 := Lib.hid hsp2
            clear hsw hwl hsp2 hsx hxs
            by_cases h64 : 64 < wl.length
            · have : r = ([], (k : Int) + 1, 3) := by rw [← HR3.out, if_pos h64]
              subst this
              go_wp2_with (first | (go_at_call 42; refine (HSP2.out _).mono ?_; rintro e w5 ⟨gx, mx, cx, rfl, hmx0, hmx1, hgx, hcx, hb5⟩) | (go_at_call 43; refine (HSW.out _).mono ?_; rintro e w2 ⟨a8, c8, rfl, hst8, hbl8, hb2⟩))
              go_ret3
              exact ⟨_, rfl, LinesAt.nil _, HB1.out.trans ((HB.out.mono HB1.out.size).trans ((hb5.mono (by omega)).trans (hb2.mono (by have := hb5.size; omega))))⟩
            · have HR4 : Hid (linesR (ps.drop (k + 1)) (k + 1) (if wl = [] then ls else ls ++ [(k + 1, wl)]) = r) := Lib.hid (by have h := HR3.out; rwa [if_neg h64] at h)
              clear HR3
              by_cases h0 : wl.length = 0
              · obtain rfl := List.length_eq_zero_iff.1 h0
                have HR5 : Hid (linesR (ps.drop (k + 1)) (k + 1) ls = r) := Lib.hid (by have := HR4.out; rwa [if_pos rfl] at this)
                clear h0 HR4
                go_wp2_with (first | (go_at_call 42; refine (HSP2.out _).mono ?_; rintro e w5 ⟨gx, mx, cx, rfl, hmx0, hmx1, hgx, hcx, hb5⟩) | (go_at_call 43; refine (HSW.out _).mono ?_; rintro e w2 ⟨a8, c8, rfl, hst8, hbl8, hb2⟩))
                have hs5 := hb5.size
                go_roundw
                case rel => exact ⟨k + 1, ls, us, by omega, by go_num, (HLO.out.below hb5).below hb2, HNE.out, by omega, HR5.out, HB.out.trans ((hb5.mono (by omega)).trans (hb2.mono (by omega)))⟩
                case measure => simp [intOf]; omega
              · have hwn : wl ≠ [] := fun h => h0 (by rw [h]; rfl)
                have HR5 : Hid (linesR (ps.drop (k + 1)) (k + 1) (ls ++ [(k + 1, wl)]) = r) := Lib.hid (by have := HR4.out; rwa [if_neg hwn] at this)
                have HWN := Lib.hid hwn
                have hpos : 0 < wl.length := by omega
                obtain ⟨i0, hi0, hz0, hz1, hz2⟩ := info_parts infoLine
                clear HR4 hwn h0
                go_wp2_with (first | (go_at_call 42; refine (HSP2.out _).mono ?_; rintro e w5 ⟨gx, mx, cx, rfl, hmx0, hmx1, hgx, hcx, hb5⟩; have HLO5 := Lib.hid (HLO.out.below hb5); have HB5 := Lib.hid hb5; have hs5 := hb5.size; clear hb5) | (go_at_call 43; refine (HSW.out _).mono ?_; rintro e w2 ⟨a8, c8, rfl, hst8, hbl8, hb2⟩; have HST8 := Lib.hid hst8; have HBL8 := Lib.hid hbl8; have hs2 := hb2.size; clear hst8 hbl8) | (at_builtin; refine wpList_append_lies _ rfl _ _ 36 rfl w1.heap.size 35 i0 (.agg #[.int .i64 0, .slice none 0 0]) 2 32 Tryd.underlying36 hi0 hz0 hz1 hz2 rfl (by decide) _ ls.length (lineCells ls us) (by rfl) ((HLO5.out.below hb2).own.alloc _) ⟨w2.heap.size, 0, none⟩ 1 1 [.int .i64 ((k : Int) + 1), .slice a8 wl.length c8] (by rfl) rfl (World.news_of_block (heap_alloc_new w2 _)) (by intro u hu; simp at hu; rcases hu with rfl | rfl <;> rfl) (by omega) (by unfold maxLen; omega) (by omega) (by simp; omega) (w2.heap.size + 1) (by simp) ?_; intro g cap w3 hown3 hgrow hat hlt3))
                have e1 : (((k + 1 : Nat)) : Int) = (k : Int) + 1 := by omega
                have hlo3 := (HLO5.out.below hb2).app (p := (k + 1, wl)) (g := g) (cap := cap) HNE.out HWN.out HST8.out (fun b hb hv => by
                  have h1 := HBL8.out b hb
                  have h2 := (HLO5.out.own.lt b hv).2
                  omega) hgrow hat (by
                    show w3.ownsRow _ _ _ _ _ (lineCells ls us ++ [.int .i64 ((k + 1 : Nat) : Int), _])
                    rw [e1]; exact hown3)
                have HL3 := Lib.hid hlo3
                have hb3 : Below w1.heap.size w2 w3 := ((Below.refl _ _).alloc (by omega) _).trans (grown_below ((HLO5.out.below hb2).own.alloc _) hgrow (by simp; omega))
                have HB3 : Hid (Below w1.heap.size w1 w3) := Lib.hid (HB.out.trans (((HB5.out.mono (by omega)).trans (hb2.mono (by omega))).trans hb3))
                clear e1 hlo3 hb3 hown3 hgrow hat
                go_roundw
                case rel => exact ⟨k + 1, ls ++ [(k + 1, wl)], us ++ [.slice a8 wl.length c8], by omega, by go_num, HL3.out, own_lines_ne HNE.out HWN.out, by simp; omega, HR5.out, HB3.out⟩
                case measure => simp [intOf]; omega
      · obtain rfl : k = n := by omega
        have : r = (ls, 0, 0) := by
          rw [← hrd, List.drop_of_length_le (by rw [HN.out]; exact Nat.le_refl _), linesR]
        subst this
        clear hrd hlo hb hne
        go_wp2
        go_ret3
        exact ⟨_, rfl, HLO.out.at (by omega), HB1.out.trans (HB.out.mono HB1.out.size)⟩
end Go.Proofs.YtmaiillomoehgaaDoor
/- strings.Cut at a separator of one byte: no bound on the text. -/
namespace Go.Proofs.YtmaiillomoehgaaDoor
open Go.RowKit
def cutB (c : UInt8) (s : ByteArray) : ByteArray × ByteArray × Bool :=
  if 0 ≤ Lib.indexByte s.data.toList c then (s.extract 0 (Lib.indexByte s.data.toList c).toNat, s.extract ((Lib.indexByte s.data.toList c).toNat + 1) s.size, true) else (s, ⟨#[]⟩, false)
theorem indexByte_lt (l : List UInt8) (c : UInt8) : Lib.indexByte l c < l.length := by
  induction l with
  | nil => simp [Lib.indexByte]
  | cons b l ih =>
    simp only [Lib.indexByte, List.length_cons]
    split
    · omega
    · split <;> omega
set_option maxHeartbeats 400000 in
theorem stringslite_Cut1 (s : ByteArray) (c : UInt8) (w : World) (hs : s.size ≤ maxLen) :
    Calls Tryd.prog 46 #[.string s, .string ⟨#[c]⟩] w fun e w' => e = .returned (.tuple #[.string (cutB c s).1, .string (cutB c s).2.1, .bool (cutB c s).2.2]) ∧ Below w.heap.size w w' := by
  have hlt : Lib.indexByte s.data.toList c < s.size := by have := indexByte_lt s.data.toList c; simpa using this
  have hge := Lib.indexByte_ge s.data.toList c
  have HC : ∀ w, Calls Tryd.prog 53 #[.string s, .string ⟨#[c]⟩] w fun e w' => e = .returned (.int .i64 (Lib.indexByte s.data.toList c)) ∧ w' = w := Tryd.stringslite_Index_one s c
  unfold cutB
  generalize Lib.indexByte s.data.toList c = i at *
  have HC' := Lib.hid HC
  clear HC
  unfold maxLen at hs
  by_cases h : 0 ≤ i
  · rw [if_pos h]
    obtain ⟨i, rfl⟩ := Int.eq_ofNat_of_zero_le h
    rw [Int.toNat_natCast]
    have hlt' : i < s.size := by omega
    go_enter Tryd.func46, Tryd.ntmps46
    go_wp2_with (go_at_call 53; refine (HC'.out _).mono ?_; rintro e w' ⟨rfl, rfl⟩)
    refine wp_region_later (by kernel_rfl) (by kernel_rfl) ?_
    repeat (go_big_quiet_step ((fail)))
    refine wpQuiet_nil ?_
    intro w2 hw'
    have hb2 := ext_below hw'
    clear hw'
    obtain ⟨hc2, hf2⟩ := bcell hb2
    have hs2 := hb2.size
    try simp at hs2
    go_wp2
    go_ret3
    exact ⟨rfl, by ((repeat (first | exact Below.refl _ _ | refine Below.drew ?_ | refine Below.setCell ?_ (by first | (simp; done) | (simp; omega) | omega) _ | refine Below.alloc ?_ (by first | (simp; done) | (simp; omega) | omega) _ | refine Below.trans ?_ (Below.mono hb2 (by first | (simp; done) | (simp; omega) | omega)))); done)⟩
  · rw [if_neg h]
    go_enter Tryd.func46, Tryd.ntmps46
    go_wp2_with (go_at_call 53; refine (HC'.out _).mono ?_; rintro e w' ⟨rfl, rfl⟩)
    go_ret3
    exact ⟨rfl, by ((repeat (first | exact Below.refl _ _ | refine Below.drew ?_ | refine Below.setCell ?_ (by first | (simp; done) | (simp; omega) | omega) _ | refine Below.alloc ?_ (by first | (simp; done) | (simp; omega) | omega) _)); done)⟩
set_option maxHeartbeats 400000 in
theorem strings_Cut1 (s : ByteArray) (c : UInt8) (w : World) (hs : s.size ≤ maxLen) :
    Calls Tryd.prog 35 #[.string s, .string ⟨#[c]⟩] w fun e w' => e = .returned (.tuple #[.string (cutB c s).1, .string (cutB c s).2.1, .bool (cutB c s).2.2]) ∧ Below w.heap.size w w' := by
  have HC := Lib.hid (stringslite_Cut1 s c w hs)
  generalize cutB c s = r at *
  obtain ⟨l, r, f⟩ := r
  go_enter Tryd.func35, Tryd.ntmps35
  go_wp2_with (go_at_call 46; refine HC.out.mono ?_; rintro e w' ⟨rfl, hb2⟩)
  go_ret3
  exact ⟨rfl, by ((repeat (first | exact Below.refl _ _ | refine Below.drew ?_ | refine Below.setCell ?_ (by first | (simp; done) | (simp; omega) | omega) _ | refine Below.alloc ?_ (by first | (simp; done) | (simp; omega) | omega) _ | refine Below.trans ?_ (Below.mono hb2 (by first | (simp; done) | (simp; omega) | omega)))); done)⟩
end Go.Proofs.YtmaiillomoehgaaDoor
/- Plain laws of package source: ranges of ports. -/
namespace Go.Proofs.YtmaiillomoehgaaDoor
/-- the range of ports that a word denotes -/
def portsL (l : List UInt8) : Option (Int × Int) :=
  match partsL 45 l with
  | [x] => (numB x 0 65535).bind fun a => some (a, a)
  | [x, y] => (numB x 0 65535).bind fun a => (numB y a 65535).bind fun b => some (a, b)
  | _ => none
theorem portsL_bd {l : List UInt8} {a b : Int} (h : portsL l = some (a, b)) : 0 ≤ a ∧ a ≤ b ∧ b ≤ 65535 := by
  unfold portsL at h
  split at h
  · simp only [Option.bind_eq_some_iff, Option.some.injEq, Prod.mk.injEq] at h
    obtain ⟨x, h1, rfl, rfl⟩ := h
    have := numB_bd h1; omega
  · simp only [Option.bind_eq_some_iff, Option.some.injEq, Prod.mk.injEq] at h
    obtain ⟨x, h1, y, h2, rfl, rfl⟩ := h
    have := numB_bd h1; have := numB_bd h2; omega
  · cases h
theorem numB_dig {l : List UInt8} {least most : Int} {n : Int} (h : numB l least most = some n) : allDig l = true := by
  unfold numB at h
  split at h
  · cases h
  · rw [Option.bind_eq_some_iff] at h
    obtain ⟨m, h1, _⟩ := h
    unfold readB at h1
    split at h1
    · cases h1
    · exact rdGo_dig _ _ _ _ h1
theorem numB_dash (l : List UInt8) (least most : Int) (h : (45 : UInt8) ∈ l) : numB l least most = none := by
  cases hn : numB l least most with
  | none => rfl
  | some n =>
    have := numB_dig hn
    rw [allDig, List.all_eq_true] at this
    have h1 := this 45 h
    simp at h1
/-- as source.Ports reckons -/
def portsC (l r : List UInt8) (f : Bool) : Option (Int × Int) := (numB l 0 65535).bind fun a => (numB (if f then r else l) a 65535).bind fun b => some (a, b)
theorem numB_self {l : List UInt8} {a : Int} (h : numB l 0 65535 = some a) : numB l a 65535 = some a := by
  unfold numB at *
  rw [if_neg (by decide)] at *
  rw [Option.bind_eq_some_iff] at h
  obtain ⟨m, h1, h2⟩ := h
  split at h2
  · cases h2
  · simp only [Option.some.injEq] at h2
    subst h2
    rw [h1, Option.bind_some, if_neg (by omega)]
theorem cutB_is (c : UInt8) (s : ByteArray) : ((cutB c s).2.2 = true ∧ s.data.toList = (cutB c s).1.data.toList ++ c :: (cutB c s).2.1.data.toList ∧ ∀ x ∈ (cutB c s).1.data.toList, x ≠ c) ∨ ((cutB c s) = (s, ⟨#[]⟩, false) ∧ ∀ x ∈ s.data.toList, x ≠ c) := by
  unfold cutB
  by_cases h : 0 ≤ Lib.indexByte s.data.toList c
  · rw [if_pos h]
    refine .inl ⟨rfl, ?_⟩
    obtain ⟨o, ho⟩ := Int.eq_ofNat_of_zero_le h
    have hs := Lib.indexByte_some ho
    rw [ho, Int.toNat_natCast]
    have hlt : o < s.data.toList.length := by
      rcases Nat.lt_or_ge o s.data.toList.length with h1 | h1
      · exact h1
      · rw [List.getElem?_eq_none h1] at hs; cases hs.1
    have he : s.data.toList = s.data.toList.take o ++ c :: s.data.toList.drop (o + 1) := by
      have h1 := hs.1
      rw [List.getElem?_eq_getElem hlt] at h1
      have := List.take_append_drop o s.data.toList
      rw [List.drop_eq_getElem_cons hlt, Option.some.inj h1] at this
      exact this.symm
    dsimp only
    rw [ext_list, ext_list, size_len, List.drop_zero, Nat.sub_zero, List.take_of_length_le (l := s.data.toList.drop (o + 1)) (by simp)]
    refine ⟨he, fun x hx hc => ?_⟩
    obtain ⟨k, hk, hxk⟩ := List.mem_iff_getElem.1 hx
    rw [List.length_take] at hk
    refine hs.2 k (by omega) ?_
    rw [List.getElem?_eq_getElem (by omega), ← hc, ← hxk, List.getElem_take]
  · rw [if_neg h]
    refine .inr ⟨rfl, fun x hx hc => ?_⟩
    have hge := Lib.indexByte_ge s.data.toList c
    obtain ⟨k, hk, hxk⟩ := List.mem_iff_getElem.1 hx
    exact Lib.indexByte_none (show Lib.indexByte s.data.toList c = -1 by omega) k (by rw [List.getElem?_eq_getElem hk, hxk, hc])
theorem ports_cut (s : ByteArray) : portsC (cutB 45 s).1.data.toList (cutB 45 s).2.1.data.toList (cutB 45 s).2.2 = portsL s.data.toList := by
  rcases cutB_is 45 s with ⟨hf, hs, hx⟩ | ⟨he, hx⟩
  · rw [hf, hs]
    generalize (cutB 45 s).1.data.toList = l at *
    generalize (cutB 45 s).2.1.data.toList = r at *
    unfold portsC portsL
    rw [partsL_app 45 l r hx]
    cases hp : partsL 45 r with
    | nil => exact absurd hp (partsL_ne _ _)
    | cons y t =>
      cases t with
      | nil =>
        obtain ⟨rfl, _⟩ := partsL_one _ _ _ hp
        rfl
      | cons z t =>
        obtain ⟨l', rfl, _, _⟩ := partsL_more _ _ _ _ _ hp
        dsimp only
        cases numB l 0 65535 with
        | none => rfl
        | some a => rw [Option.bind_some, if_pos rfl, numB_dash _ _ _ (by simp)]; rfl
  · rw [he]
    unfold portsC portsL
    rw [partsL_plain 45 _ hx]
    dsimp only
    cases h : numB s.data.toList 0 65535 with
    | none => rfl
    | some a => rw [Option.bind_some, if_neg Bool.false_ne_true, numB_self h]; rfl
/-- as the reference reckons -/
theorem ports_ref (l : List UInt8) : portsL l = (if 2 < (partsL 45 l).length then none else (numB ((partsL 45 l).getD 0 []) 0 65535).bind fun a => (numB ((partsL 45 l).getD ((partsL 45 l).length - 1) []) 0 65535).bind fun b => if b < a then none else some (a, b)) := by
  have key : ∀ y a, 0 ≤ a → numB y a 65535 = (numB y 0 65535).bind fun b => if b < a then none else some b := fun y a ha => by
    unfold numB
    rw [if_neg (by decide), if_neg (by decide)]
    cases hy : readB y 65535 with
    | none => rfl
    | some b =>
      have := readB_bd (by decide) hy
      rw [Option.bind_some, Option.bind_some, if_neg (show ¬ b < 0 by omega), Option.bind_some]
  unfold portsL
  split
  · rename_i x hp
    rw [hp]
    simp only [List.length_singleton, List.getD_cons_zero, Nat.sub_self]
    rw [if_neg (by decide)]
    cases h : numB x 0 65535 with
    | none => rfl
    | some a => rw [Option.bind_some, Option.bind_some, Option.bind_some, if_neg (by omega)]
  · rename_i x y hp
    rw [hp]
    simp only [List.length_cons, List.length_nil, List.getD_cons_zero, List.getD_cons_succ]
    rw [if_neg (by decide)]
    cases h : numB x 0 65535 with
    | none => rfl
    | some a =>
      rw [Option.bind_some, Option.bind_some, key y a (numB_bd h).2.1]
      show _ = (numB y 0 65535).bind _
      cases numB y 0 65535 with
      | none => rfl
      | some b =>
        simp only [Option.bind_some]
        by_cases hb : b < a
        · rw [if_pos hb, if_pos hb]; rfl
        · rw [if_neg hb, if_neg hb]; rfl
  · rename_i h1 h2
    rw [if_pos]
    cases hp : partsL 45 l with
    | nil => exact absurd hp (partsL_ne _ _)
    | cons x t =>
      cases t with
      | nil => exact absurd hp (h1 x)
      | cons y t =>
        cases t with
        | nil => exact absurd hp (h2 x y)
        | cons z t => simp
theorem cutB_sz (c : UInt8) (s : ByteArray) (hs : s.size ≤ maxLen) : (cutB c s).1.size ≤ maxLen ∧ (cutB c s).2.1.size ≤ maxLen := by
  unfold cutB; split
  · refine ⟨?_, ?_⟩ <;> (simp only [ByteArray.size_extract]; omega)
  · exact ⟨hs, by simp [ByteArray.size]⟩
end Go.Proofs.YtmaiillomoehgaaDoor
/- Walks of package source and of its reference: ranges of ports. -/
namespace Go.Proofs.YtmaiillomoehgaaDoor
open Go.RowKit
theorem u32_in (n : Int) (h0 : 0 ≤ n) (h1 : n ≤ 4294967295) : IntKind.u32.wrap n = n := by simp [IntKind.wrap, IntKind.bits, IntKind.signed]; omega
set_option maxHeartbeats 4000000 in
theorem src_Ports (s : ByteArray) (hs : s.size ≤ maxLen) {r : Option (Int × Int)} (hr : portsL s.data.toList = r) (w : World) :
    Calls Tryd.prog 22 #[.string s] w fun e w' => e = .returned (.tuple #[.agg #[.int .u32 (r.getD (0, 0)).1, .int .u32 (r.getD (0, 0)).2], .bool r.isSome]) ∧ Below w.heap.size w w' := by
  have hsz := cutB_sz 45 s hs
  have HC : Hid (∀ w, Calls Tryd.prog 35 #[.string s, .string ⟨#[45]⟩] w fun e w' => e = .returned (.tuple #[.string (cutB 45 s).1, .string (cutB 45 s).2.1, .bool (cutB 45 s).2.2]) ∧ Below w.heap.size w w') := Lib.hid fun w => strings_Cut1 s 45 w hs
  rw [← ports_cut s] at hr
  generalize cutB 45 s = ct at *
  obtain ⟨l, q, f⟩ := ct
  dsimp only at *
  obtain ⟨hl, hq⟩ := hsz
  obtain ⟨rr, hrr⟩ : ∃ rr : ByteArray, rr = if f then q else l := ⟨_, rfl⟩
  have hrs : rr.size ≤ maxLen := by rw [hrr]; split <;> assumption
  have hr' : portsC l.data.toList rr.data.toList true = r := by
    rw [← hr, hrr]; unfold portsC; cases f <;> rfl
  unfold portsC at hr'
  simp only [if_true] at hr'
  obtain ⟨x, hx⟩ : ∃ x, numB l.data.toList 0 65535 = x := ⟨_, rfl⟩
  rw [hx] at hr'
  have HX := Lib.hid hx
  clear hr hx
  cases x with
  | none =>
    have : r = none := hr'.symm
    subst this
    obtain ⟨y, hy⟩ : ∃ y, numB rr.data.toList 0 65535 = y := ⟨_, rfl⟩
    have HY := Lib.hid hy
    clear hr' hy
    cases f
    all_goals
      simp only [if_true, if_false, Bool.false_eq_true] at hrr
      subst hrr
      go_enter Tryd.func22, Tryd.ntmps22
      go_wp2_with (first | (go_at_call 35; refine (HC.out _).mono ?_; rintro e w2 ⟨rfl, hb2⟩; obtain ⟨hc2, hf2⟩ := bcell hb2; have hs2 := hb2.size; simp at hs2; have hz2 : w.heap.size < w2.heap.size := by omega) | (go_at_call 21; with_reducible refine (src_Number _ 0 65535 (by decide) (by decide) (by decide) (by decide) (by assumption) HX.out _).mono ?_; rintro e w' ⟨rfl, rfl⟩) | (go_at_call 21; with_reducible refine (src_Number _ 0 65535 (by decide) (by decide) (by decide) (by decide) (by assumption) HY.out _).mono ?_; rintro e w' ⟨rfl, rfl⟩))
      go_wp2
      refine bodyPost_ret (v := .tuple #[.agg #[.int .u32 0, .int .u32 0], .bool false]) (by simp [results, Tryd.results22, go_sem, hc2, hz2]) rfl ?_
      exact ⟨rfl, by ((repeat (first | exact Below.refl _ _ | refine Below.drew ?_ | refine Below.setCell ?_ (by first | (simp; done) | (simp; omega) | omega) _ | refine Below.alloc ?_ (by first | (simp; done) | (simp; omega) | omega) _ | refine Below.trans ?_ (Below.mono hb2 (by first | (simp; done) | (simp; omega) | omega)))); done)⟩
  | some a =>
    have ha := numB_bd HX.out
    rw [Option.bind_some] at hr'
    obtain ⟨y, hy⟩ : ∃ y, numB rr.data.toList a 65535 = y := ⟨_, rfl⟩
    rw [hy] at hr'
    have HY := Lib.hid hy
    clear hy
    cases y with
    | none =>
      have : r = none := hr'.symm
      subst this
      clear hr'
      cases f
      all_goals
        simp only [if_true, if_false, Bool.false_eq_true] at hrr
        subst hrr
        go_enter Tryd.func22, Tryd.ntmps22
        go_wp2_with (first | (go_at_call 35; refine (HC.out _).mono ?_; rintro e w2 ⟨rfl, hb2⟩; obtain ⟨hc2, hf2⟩ := bcell hb2; have hs2 := hb2.size; simp at hs2; have hz2 : w.heap.size < w2.heap.size := by omega) | (go_at_call 21; with_reducible refine (src_Number _ 0 65535 (by decide) (by decide) (by decide) (by decide) (by assumption) HX.out _).mono ?_; rintro e w' ⟨rfl, rfl⟩) | (go_at_call 21; with_reducible refine (src_Number _ a 65535 (by omega) (by omega) (by decide) (by decide) (by assumption) HY.out _).mono ?_; rintro e w' ⟨rfl, rfl⟩))
        go_wp2
        refine bodyPost_ret (v := .tuple #[.agg #[.int .u32 0, .int .u32 0], .bool false]) (by simp [results, Tryd.results22, go_sem, hc2, hz2]) rfl ?_
        exact ⟨rfl, by ((repeat (first | exact Below.refl _ _ | refine Below.drew ?_ | refine Below.setCell ?_ (by first | (simp; done) | (simp; omega) | omega) _ | refine Below.alloc ?_ (by first | (simp; done) | (simp; omega) | omega) _ | refine Below.trans ?_ (Below.mono hb2 (by first | (simp; done) | (simp; omega) | omega)))); done)⟩
    | some b =>
      have hb := numB_bd HY.out
      have : r = some (a, b) := hr'.symm
      subst this
      clear hr'
      have e1 := u32_in a (by omega) (by omega)
      have e2 := u32_in b (by omega) (by omega)
      cases f
      all_goals
        simp only [if_true, if_false, Bool.false_eq_true] at hrr
        subst hrr
        go_enter Tryd.func22, Tryd.ntmps22
        go_wp2_with (first | (go_at_call 35; refine (HC.out _).mono ?_; rintro e w2 ⟨rfl, hb2⟩; obtain ⟨hc2, hf2⟩ := bcell hb2; have hs2 := hb2.size; simp at hs2; have hz2 : w.heap.size < w2.heap.size := by omega) | (go_at_call 21; with_reducible refine (src_Number _ 0 65535 (by decide) (by decide) (by decide) (by decide) (by assumption) HX.out _).mono ?_; rintro e w' ⟨rfl, rfl⟩) | (go_at_call 21; with_reducible refine (src_Number _ a 65535 (by omega) (by omega) (by decide) (by decide) (by assumption) HY.out _).mono ?_; rintro e w' ⟨rfl, rfl⟩))
        go_wp2
        refine bodyPost_ret (v := .tuple #[.agg #[.int .u32 a, .int .u32 b], .bool true]) (by simp [results, Tryd.results22, go_sem, hc2, hz2]) rfl ?_
        exact ⟨rfl, by ((repeat (first | exact Below.refl _ _ | refine Below.drew ?_ | refine Below.setCell ?_ (by first | (simp; done) | (simp; omega) | omega) _ | refine Below.alloc ?_ (by first | (simp; done) | (simp; omega) | omega) _ | refine Below.trans ?_ (Below.mono hb2 (by first | (simp; done) | (simp; omega) | omega)))); done)⟩

set_option maxHeartbeats 4000000 in
theorem ref_Ports (s : ByteArray) (hs : s.size ≤ 4398046511104) {r : Option (Int × Int)} (hr : portsL s.data.toList = r) (w : World) :
    Calls Tryd.prog 27 #[.string s] w fun e w' => e = .returned (.tuple #[.agg #[.int .u32 (r.getD (0, 0)).1, .int .u32 (r.getD (0, 0)).2], .bool r.isSome]) ∧ Below w.heap.size w w' := by
  rw [ports_ref] at hr
  obtain ⟨m, hm⟩ : ∃ m, (partsL 45 s.data.toList).length = m := ⟨_, rfl⟩
  rw [hm] at hr
  have hm0 : 0 < m := by rw [← hm]; exact List.length_pos_iff.2 (partsL_ne _ _)
  have hml : m ≤ s.size + 1 := by rw [← hm, size_len]; exact partsL_len _ _
  obtain ⟨x, hx⟩ : ∃ x : ByteArray, x = ⟨((partsL 45 s.data.toList).getD 0 []).toArray⟩ := ⟨_, rfl⟩
  obtain ⟨y, hy⟩ : ∃ y : ByteArray, y = ⟨((partsL 45 s.data.toList).getD (m - 1) []).toArray⟩ := ⟨_, rfl⟩
  have hle : ∀ j, ((partsL 45 s.data.toList).getD j []).length ≤ s.size := fun j => by
    rw [size_len]
    by_cases hj : j < (partsL 45 s.data.toList).length
    · rw [List.getD_eq_getElem?_getD, List.getElem?_eq_getElem hj]; exact parts_le _ _ _ (List.getElem_mem hj)
    · rw [List.getD_eq_getElem?_getD, List.getElem?_eq_none (by omega)]; simp
  have hxs : x.size ≤ maxLen := by rw [hx, size_list]; have := hle 0; unfold maxLen; omega
  have hys : y.size ≤ maxLen := by rw [hy, size_list]; have := hle (m - 1); unfold maxLen; omega
  have HP : Hid (∀ w, Calls Tryd.prog 42 #[.string s, .int .u8 45] w fun e w' => ∃ g cap, e = .returned (.slice (some ⟨g, 0, none⟩) m cap) ∧ w.heap.size ≤ g ∧ g < w'.heap.size ∧ w'.cell? ⟨g, 0, none⟩ = some (.string x) ∧ w'.cell? ⟨g, m - 1, none⟩ = some (.string y) ∧ Below w.heap.size w w') := Lib.hid fun w => by
    have h := ref_PartsS s 45 hs w
    rw [hm] at h
    refine h.mono fun e w' ⟨g, cap, h1, h2, h3, h4, h5⟩ => ⟨g, cap, h1, h2, h3, ?_, ?_, h5⟩
    · rw [hx]; exact h4 0 _ (by rw [List.getD_eq_getElem?_getD, List.getElem?_eq_getElem (by rw [hm]; omega)]; rfl)
    · rw [hy]; exact h4 (m - 1) _ (by rw [List.getD_eq_getElem?_getD, List.getElem?_eq_getElem (by rw [hm]; omega)]; rfl)
  have ex : (partsL 45 s.data.toList).getD 0 [] = x.data.toList := by rw [hx]
  have ey : (partsL 45 s.data.toList).getD (m - 1) [] = y.data.toList := by rw [hy]
  rw [ex, ey] at hr
  have hxy : m = 1 → x = y := fun h => by rw [hx, hy, h]
  clear ex ey hx hy hle hm
  by_cases h2 : 2 < m
  · rw [if_pos h2] at hr
    subst hr
    go_enter Tryd.func27, Tryd.ntmps27
    go_wp2_with (go_at_call 42; refine (HP.out _).mono ?_; rintro e w2 ⟨g, cap, rfl, hg0, hg1, hx0, hy0, hb2⟩; obtain ⟨hc2, hf2⟩ := bcell hb2; have hs2 := hb2.size; simp at hs2; have hz2 : w.heap.size < w2.heap.size := (by omega))
    go_wp2
    refine bodyPost_ret (v := .tuple #[.agg #[.int .u32 0, .int .u32 0], .bool false]) (by simp [results, Tryd.results27, go_sem, hc2, hz2]) rfl ?_
    exact ⟨rfl, by ((repeat (first | exact Below.refl _ _ | refine Below.drew ?_ | refine Below.setCell ?_ (by first | (simp; done) | (simp; omega) | omega) _ | refine Below.alloc ?_ (by first | (simp; done) | (simp; omega) | omega) _ | refine Below.trans ?_ (Below.mono hb2 (by first | (simp; done) | (simp; omega) | omega)))); done)⟩
  rw [if_neg h2] at hr
  obtain ⟨p, hp⟩ : ∃ p, numB x.data.toList 0 65535 = p := ⟨_, rfl⟩
  obtain ⟨q, hq⟩ : ∃ q, numB y.data.toList 0 65535 = q := ⟨_, rfl⟩
  rw [hp, hq] at hr
  have HX := Lib.hid hp
  have HY := Lib.hid hq
  clear hp hq
  have hm12 : m = 1 ∨ m = 2 := by omega
  clear h2 hm0 hml
  rcases hm12 with rfl | rfl
  · obtain rfl := hxy rfl
    obtain rfl : p = q := HX.out.symm.trans HY.out
    clear hxy HY hys
    cases p with
    | none =>
      have : r = none := hr.symm
      subst this
      clear hr
      go_enter Tryd.func27, Tryd.ntmps27
      go_wp2_with (first | (go_at_call 42; refine (HP.out _).mono ?_; rintro e w2 ⟨g, cap, rfl, hg0, hg1, hx0, hy0, hb2⟩; obtain ⟨hc2, hf2⟩ := bcell hb2; have hs2 := hb2.size; simp at hs2 hg0; have hz2 : w.heap.size < w2.heap.size := (by omega)) | (go_at_call 26; with_reducible refine (ref_Num _ 0 65535 (by decide) (by decide) (by decide) (by decide) hxs HX.out _).mono ?_; rintro e w' ⟨rfl, rfl⟩))
      go_wp2
      refine bodyPost_ret (v := .tuple #[.agg #[.int .u32 0, .int .u32 0], .bool false]) (by simp [results, Tryd.results27, go_sem, hc2, hz2]) rfl ?_
      exact ⟨rfl, by ((repeat (first | exact Below.refl _ _ | refine Below.drew ?_ | refine Below.setCell ?_ (by first | (simp; done) | (simp; omega) | omega) _ | refine Below.alloc ?_ (by first | (simp; done) | (simp; omega) | omega) _ | refine Below.trans ?_ (Below.mono hb2 (by first | (simp; done) | (simp; omega) | omega)))); done)⟩
    | some a =>
      have ha := numB_bd HX.out
      rw [Option.bind_some, Option.bind_some, if_neg (by omega)] at hr
      subst hr
      have e1 := u32_in a (by omega) (by omega)
      go_enter Tryd.func27, Tryd.ntmps27
      go_wp2_with (first | (go_at_call 42; refine (HP.out _).mono ?_; rintro e w2 ⟨g, cap, rfl, hg0, hg1, hx0, hy0, hb2⟩; obtain ⟨hc2, hf2⟩ := bcell hb2; have hs2 := hb2.size; simp at hs2 hg0; have hz2 : w.heap.size < w2.heap.size := (by omega)) | (go_at_call 26; with_reducible refine (ref_Num _ 0 65535 (by decide) (by decide) (by decide) (by decide) hxs HX.out _).mono ?_; rintro e w' ⟨rfl, rfl⟩))
      go_wp2
      refine bodyPost_ret (v := .tuple #[.agg #[.int .u32 a, .int .u32 a], .bool true]) (by simp [results, Tryd.results27, go_sem, hc2, hz2]) rfl ?_
      exact ⟨rfl, by ((repeat (first | exact Below.refl _ _ | refine Below.drew ?_ | refine Below.setCell ?_ (by first | (simp; done) | (simp; omega) | omega) _ | refine Below.alloc ?_ (by first | (simp; done) | (simp; omega) | omega) _ | refine Below.trans ?_ (Below.mono hb2 (by first | (simp; done) | (simp; omega) | omega)))); done)⟩
  · clear hxy
    cases p with
    | none =>
      have : r = none := hr.symm
      subst this
      clear hr
      go_enter Tryd.func27, Tryd.ntmps27
      go_wp2_with (first | (go_at_call 42; refine (HP.out _).mono ?_; rintro e w2 ⟨g, cap, rfl, hg0, hg1, hx0, hy0, hb2⟩; obtain ⟨hc2, hf2⟩ := bcell hb2; have hs2 := hb2.size; simp at hs2 hg0; have hz2 : w.heap.size < w2.heap.size := (by omega)) | (go_at_call 26; with_reducible refine (ref_Num _ 0 65535 (by decide) (by decide) (by decide) (by decide) hxs HX.out _).mono ?_; rintro e w' ⟨rfl, rfl⟩) | (go_at_call 26; with_reducible refine (ref_Num _ 0 65535 (by decide) (by decide) (by decide) (by decide) hys HY.out _).mono ?_; rintro e w' ⟨rfl, rfl⟩))
      go_wp2
      refine bodyPost_ret (v := .tuple #[.agg #[.int .u32 0, .int .u32 0], .bool false]) (by simp [results, Tryd.results27, go_sem, hc2, hz2]) rfl ?_
      exact ⟨rfl, by ((repeat (first | exact Below.refl _ _ | refine Below.drew ?_ | refine Below.setCell ?_ (by first | (simp; done) | (simp; omega) | omega) _ | refine Below.alloc ?_ (by first | (simp; done) | (simp; omega) | omega) _ | refine Below.trans ?_ (Below.mono hb2 (by first | (simp; done) | (simp; omega) | omega)))); done)⟩
    | some a =>
      have ha := numB_bd HX.out
      rw [Option.bind_some] at hr
      cases q with
      | none =>
        have : r = none := hr.symm
        subst this
        clear hr
        go_enter Tryd.func27, Tryd.ntmps27
        go_wp2_with (first | (go_at_call 42; refine (HP.out _).mono ?_; rintro e w2 ⟨g, cap, rfl, hg0, hg1, hx0, hy0, hb2⟩; obtain ⟨hc2, hf2⟩ := bcell hb2; have hs2 := hb2.size; simp at hs2 hg0; have hz2 : w.heap.size < w2.heap.size := (by omega)) | (go_at_call 26; with_reducible refine (ref_Num _ 0 65535 (by decide) (by decide) (by decide) (by decide) hxs HX.out _).mono ?_; rintro e w' ⟨rfl, rfl⟩) | (go_at_call 26; with_reducible refine (ref_Num _ 0 65535 (by decide) (by decide) (by decide) (by decide) hys HY.out _).mono ?_; rintro e w' ⟨rfl, rfl⟩))
        go_wp2
        refine bodyPost_ret (v := .tuple #[.agg #[.int .u32 0, .int .u32 0], .bool false]) (by simp [results, Tryd.results27, go_sem, hc2, hz2]) rfl ?_
        exact ⟨rfl, by ((repeat (first | exact Below.refl _ _ | refine Below.drew ?_ | refine Below.setCell ?_ (by first | (simp; done) | (simp; omega) | omega) _ | refine Below.alloc ?_ (by first | (simp; done) | (simp; omega) | omega) _ | refine Below.trans ?_ (Below.mono hb2 (by first | (simp; done) | (simp; omega) | omega)))); done)⟩
      | some b =>
        have hb := numB_bd HY.out
        rw [Option.bind_some] at hr
        by_cases hba : b < a
        · rw [if_pos hba] at hr
          subst hr
          go_enter Tryd.func27, Tryd.ntmps27
          go_wp2_with (first | (go_at_call 42; refine (HP.out _).mono ?_; rintro e w2 ⟨g, cap, rfl, hg0, hg1, hx0, hy0, hb2⟩; obtain ⟨hc2, hf2⟩ := bcell hb2; have hs2 := hb2.size; simp at hs2 hg0; have hz2 : w.heap.size < w2.heap.size := (by omega)) | (go_at_call 26; with_reducible refine (ref_Num _ 0 65535 (by decide) (by decide) (by decide) (by decide) hxs HX.out _).mono ?_; rintro e w' ⟨rfl, rfl⟩) | (go_at_call 26; with_reducible refine (ref_Num _ 0 65535 (by decide) (by decide) (by decide) (by decide) hys HY.out _).mono ?_; rintro e w' ⟨rfl, rfl⟩))
          go_wp2
          refine bodyPost_ret (v := .tuple #[.agg #[.int .u32 0, .int .u32 0], .bool false]) (by simp [results, Tryd.results27, go_sem, hc2, hz2]) rfl ?_
          exact ⟨rfl, by ((repeat (first | exact Below.refl _ _ | refine Below.drew ?_ | refine Below.setCell ?_ (by first | (simp; done) | (simp; omega) | omega) _ | refine Below.alloc ?_ (by first | (simp; done) | (simp; omega) | omega) _ | refine Below.trans ?_ (Below.mono hb2 (by first | (simp; done) | (simp; omega) | omega)))); done)⟩
        · rw [if_neg hba] at hr
          subst hr
          have e1 := u32_in a (by omega) (by omega)
          have e2 := u32_in b (by omega) (by omega)
          go_enter Tryd.func27, Tryd.ntmps27
          go_wp2_with (first | (go_at_call 42; refine (HP.out _).mono ?_; rintro e w2 ⟨g, cap, rfl, hg0, hg1, hx0, hy0, hb2⟩; obtain ⟨hc2, hf2⟩ := bcell hb2; have hs2 := hb2.size; simp at hs2 hg0; have hz2 : w.heap.size < w2.heap.size := (by omega)) | (go_at_call 26; with_reducible refine (ref_Num _ 0 65535 (by decide) (by decide) (by decide) (by decide) hxs HX.out _).mono ?_; rintro e w' ⟨rfl, rfl⟩) | (go_at_call 26; with_reducible refine (ref_Num _ 0 65535 (by decide) (by decide) (by decide) (by decide) hys HY.out _).mono ?_; rintro e w' ⟨rfl, rfl⟩))
          go_wp2
          refine bodyPost_ret (v := .tuple #[.agg #[.int .u32 a, .int .u32 b], .bool true]) (by simp [results, Tryd.results27, go_sem, hc2, hz2]) rfl ?_
          exact ⟨rfl, by ((repeat (first | exact Below.refl _ _ | refine Below.drew ?_ | refine Below.setCell ?_ (by first | (simp; done) | (simp; omega) | omega) _ | refine Below.alloc ?_ (by first | (simp; done) | (simp; omega) | omega) _ | refine Below.trans ?_ (Below.mono hb2 (by first | (simp; done) | (simp; omega) | omega)))); done)⟩
end Go.Proofs.YtmaiillomoehgaaDoor
/- The sanity check of the laws of package source. -/
namespace Go.Proofs.YtmaiillomoehgaaDoor
open Go.RowKit
theorem sane_lines : linesL [10, 97, 32, 61, 98, 44, 99, 32, 35, 32, 120] = ([(2, [[97], [61], [98], [44], [99]])], 0, 0) := by decide +kernel
theorem sane_ports : portsL [56, 48, 45, 52, 52, 51] = some (80, 443) := by decide +kernel
set_option maxRecDepth 100000 in
set_option maxHeartbeats 2000000 in
theorem law10_sane (w : World) (hml : ML w) : Calls Tryd.prog 15 #[] w fun e w' => e = .returned (.bool true) ∧ Below w.heap.size w w' := by
  have HML := Lib.hid hml
  have HP : Hid (∀ w, Calls Tryd.prog 22 #[.string ⟨#[56, 48, 45, 52, 52, 51]⟩] w fun e w' => e = .returned (.tuple #[.agg #[.int .u32 80, .int .u32 443], .bool true]) ∧ Below w.heap.size w w') := Lib.hid (src_Ports ⟨#[56, 48, 45, 52, 52, 51]⟩ (by decide) sane_ports)
  have HL : Hid (∀ w, ML w → Calls Tryd.prog 17 #[.string ⟨#[10, 97, 32, 61, 98, 44, 99, 32, 35, 32, 120]⟩] w fun e w' => ∃ (g o cap gw ow cw : Nat), e = .returned (.tuple #[.slice (some ⟨g, o, none⟩) 1 cap, .int .i64 0, .int .i64 0]) ∧ g < w'.heap.size ∧ gw < w'.heap.size ∧
      w'.cell? ⟨g, o, none⟩ = some (.int .i64 2) ∧ w'.cell? ⟨g, o + 1, none⟩ = some (.slice (some ⟨gw, ow, none⟩) 5 cw) ∧ w'.cell? ⟨gw, ow + 1, none⟩ = some (.string ⟨#[61]⟩) ∧ Below w.heap.size w w') := Lib.hid fun w hm => by
    refine (src_Lines ⟨#[10, 97, 32, 61, 98, 44, 99, 32, 35, 32, 120]⟩ (by decide) sane_lines w hm).mono fun e w' ⟨v, he, hat, hb⟩ => ?_
    obtain ⟨_, a, cap, rfl, h⟩ := hat
    rcases h with h | ⟨g, o, rfl, hg, hc⟩
    · cases h
    · obtain ⟨h1, u, h2, _, aw, cw, rfl, h3⟩ := hc 0 _ rfl
      rcases h3 with h3 | ⟨gw, ow, rfl, hgw, hcw⟩
      · cases h3
      · exact ⟨g, o, cap, gw, ow, cw, he, hg, hgw, h1, h2, hcw 1 _ rfl, hb⟩
  clear hml
  go_enter Tryd.func15, Tryd.ntmps15
  go_wp2_with fail
  refine (HL.out _ HML.out).mono ?_
  rintro e w1 ⟨g, o, cap, gw, ow, cw, rfl, hg, hgw, c1, c2, c3, hb1⟩
  have HB1 := Lib.hid hb1
  clear hb1
  go_wp2_with fail
  refine (HP.out _).mono ?_
  rintro e w2 ⟨rfl, hb2⟩
  have hs2 := hb2.size
  have d1 := (hb2.cell (p := ⟨g, o, none⟩) hg).trans c1
  have d2 := (hb2.cell (p := ⟨g, o + 1, none⟩) hg).trans c2
  have d3 := (hb2.cell (p := ⟨gw, ow + 1, none⟩) hgw).trans c3
  have hg2 : g < w2.heap.size := by omega
  have hgw2 : gw < w2.heap.size := by omega
  have HB2 := Lib.hid (HB1.out.trans (hb2.mono HB1.out.size))
  have N1 : Hid (∀ w, Calls Tryd.prog 28 #[.string ⟨#[97, 45, 49]⟩] w fun e w' => e = .returned (.bool true) ∧ w = w') := Lib.hid (src_ValidName ⟨#[97, 45, 49]⟩ (by decide) (by decide +kernel))
  have N2 : Hid (∀ w, Calls Tryd.prog 28 #[.string ⟨#[97, 110, 121]⟩] w fun e w' => e = .returned (.bool false) ∧ w = w') := Lib.hid (src_ValidName ⟨#[97, 110, 121]⟩ (by decide) (by decide +kernel))
  have hsz := HB2.out.size
  clear hb2 c1 c2 c3 hg hgw hs2
  go_wp2_with (first | (go_at_call 28; with_reducible refine (N1.out _).mono ?_; rintro e w' ⟨rfl, rfl⟩) | (go_at_call 28; with_reducible refine (N2.out _).mono ?_; rintro e w' ⟨rfl, rfl⟩))
  go_ret
  exact ⟨rfl, by ((repeat (first | exact Below.refl _ _ | refine Below.drew ?_ | refine Below.setCell ?_ (by first | (simp; done) | (simp; omega) | omega) _ | refine Below.alloc ?_ (by first | (simp; done) | (simp; omega) | omega) _ | refine Below.trans ?_ (Below.mono HB2.out (by first | (simp; done) | (simp; omega) | omega)))); done)⟩
end Go.Proofs.YtmaiillomoehgaaDoor
