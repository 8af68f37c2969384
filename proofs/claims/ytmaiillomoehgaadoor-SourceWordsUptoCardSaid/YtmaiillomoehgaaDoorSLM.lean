/- Package source: plain functions over byte strings. -/
import Derived.Test.YtmaiillomoehgaaDoorGrpU
import Derived.Test.YtmaiillomoehgaaDoorTopE
import Derived.Test.YtmaiillomoehgaaDoorGrpT
set_option linter.unusedVariables false
set_option linter.unusedSimpArgs false
namespace Go.Proofs.YtmaiillomoehgaaDoor.V
open Go.RowKit Go.Proofs.YtmaiillomoehgaaDoor
theorem tr_below {w w' : World} (h : Below w.heap.size w w') : Tr [] w [] w' := ⟨(Ch.of_below h).mono fun _ h => h.elim, fun _ h => h.elim, MS.nil _⟩
theorem tr_same (w : World) : Tr [] w [] w := Tr.refl (MS.nil _)
def mkB (l : List UInt8) : ByteArray := ⟨l.toArray⟩
theorem mkB_list (l : List UInt8) : (mkB l).data.toList = l := by simp [mkB]
theorem mkB_of (s : ByteArray) : mkB s.data.toList = s := by
  cases s; simp [mkB]
theorem mkB_size (l : List UInt8) : (mkB l).size = l.length := by simp [mkB, ByteArray.size]
theorem mkB_inj {a b : List UInt8} (h : mkB a = mkB b) : a = b := by rw [← mkB_list a, h, mkB_list]
def wordsB (s : ByteArray) : List ByteArray := (wordsL s.data.toList).map mkB
def partsB (c : Int) (s : ByteArray) : List ByteArray := (partsL (UInt8.ofNat c.toNat) s.data.toList).map mkB
def prB (s : ByteArray) : Prop := s.data.toList.all prC = true
instance (s : ByteArray) : Decidable (prB s) := inferInstanceAs (Decidable (_ = _))
theorem words_len (s : ByteArray) : (wordsB s).length ≤ s.size := by
  unfold wordsB; rw [List.length_map]
  have := wGo_len s.data.toList []
  rw [← size_len] at this
  simpa [wordsL] using this
theorem parts_len (c : Int) (s : ByteArray) : (partsB c s).length ≤ s.size + 1 := by
  unfold partsB; rw [List.length_map]
  have := partsL_len (UInt8.ofNat c.toNat) s.data.toList
  rwa [← size_len] at this
theorem parts_pos (c : Int) (s : ByteArray) : 0 < (partsB c s).length := by
  unfold partsB; rw [List.length_map]
  exact List.length_pos_iff.2 (partsL_ne _ _)
theorem parts_small (c : Int) (s : ByteArray) (i : Nat) : ((partsB c s).getD i strE.dflt).size ≤ s.size := by
  rcases Nat.lt_or_ge i (partsB c s).length with h | h
  · have hm := getD_mem (d := strE.dflt) h
    unfold partsB at hm
    obtain ⟨l, hl, e⟩ := List.mem_map.1 hm
    unfold partsB
    rw [← e, mkB_size, size_len]; exact parts_le _ _ l hl
  · rw [List.getD_eq_getElem?_getD, List.getElem?_eq_none h]; exact Nat.zero_le _
theorem wGo_le : ∀ (l cur : List UInt8), ∀ x ∈ wGo l cur, x.length ≤ l.length + cur.length
  | [], cur, x, h => by
    unfold wGo Proofs.YtmaiillomoehgaaDoor.flush at h
    split at h
    · simp at h
    · simp at h; subst h; omega
  | c :: l, cur, x, h => by
    have hf : ∀ x ∈ Proofs.YtmaiillomoehgaaDoor.flush cur, x.length ≤ cur.length := fun x h => by
      unfold Proofs.YtmaiillomoehgaaDoor.flush at h
      split at h
      · simp at h
      · simp at h; subst h; omega
    unfold wGo at h
    split at h
    · have := hf x h; omega
    · split at h
      · rcases List.mem_append.1 h with h | h
        · have := hf x h; omega
        · have := wGo_le l [] x h; simp at this ⊢; omega
      · split at h
        · rcases List.mem_append.1 h with h | h
          · have := hf x h; omega
          · rcases List.mem_cons.1 h with rfl | h
            · simp; omega
            · have := wGo_le l [] x h; simp at this ⊢; omega
        · have := wGo_le l (cur ++ [c]) x h; simp at this ⊢; omega
theorem flat_str : ∀ xs : List (List UInt8), (xs.map mkB).flatMap strE.cells = strCells xs
  | [] => rfl
  | x :: xs => by rw [List.map_cons, List.flatMap_cons, flat_str xs]; rfl
theorem strs_row {w w' : World} {F : Nat → Prop} (hF : Old F w) {v : Value} {xs : List (List UInt8)} (h : w'.ownsRow w.heap.size 9 1 v xs.length (strCells xs)) (hs : ∀ l ∈ xs, l.length ≤ maxLen) :
    ∃ (a : Option Addr) (c : Nat), v = .slice a (xs.map mkB).length c ∧ (slE strE).wf (Fr F []) w'.heap ⟨a, c, xs.map mkB⟩ := by
  obtain ⟨a, c, rfl⟩ : ∃ a c, v = .slice a xs.length c := by
    rcases h.2 with ⟨rfl, h0⟩ | ⟨g, cap, cur, rfl, _⟩
    · exact ⟨none, 0, by rw [h0]⟩
    · exact ⟨_, _, rfl⟩
  have R : Row strE 9 w.heap.size F [] w' a c (xs.map mkB) := ⟨by rw [flat_str, List.length_map]; exact h, fun x hx => by
    obtain ⟨l, hl, rfl⟩ := List.mem_map.1 hx
    show (mkB l).size ≤ maxLen
    rw [mkB_size]; exact hs l hl⟩
  exact ⟨a, c, by rw [List.length_map], R.latD (by decide) (fun k hk => ⟨fun e => e, R.notF hF (Nat.le_refl _) k hk⟩) R.wf, R.cap_le⟩
def prOk (b : Int) : Prop := b = 9 ∨ (32 ≤ b ∧ b ≤ 126)
theorem prC_iff (c : UInt8) : prC c = true ↔ prOk (c.toNat : Int) := by
  unfold prC prOk; simp only [Bool.or_eq_true, Bool.and_eq_true, decide_eq_true_eq]; omega
theorem prB_iff (s : ByteArray) : prB s ↔ ∀ j, j < s.size → prOk (bt s j) := by
  unfold prB
  rw [List.all_eq_true]
  constructor
  · intro h j hj
    have h1 := h (s.data.toList[j]'(by rw [← size_len]; exact hj)) (List.getElem_mem _)
    have h2 := (prC_iff _).1 h1
    rwa [show bt s j = ((s.data.toList[j]'(by rw [← size_len]; exact hj)).toNat : Int) from by
      unfold bt; simp [ByteArray.get!, getElem!_pos, hj]] at *
  · intro h c hc
    obtain ⟨j, hj, rfl⟩ := List.getElem_of_mem hc
    have hj' : j < s.size := by rw [size_len]; exact hj
    have h1 := h j hj'
    refine (prC_iff _).2 ?_
    rwa [show bt s j = ((s.data.toList[j]).toNat : Int) from by
      unfold bt; simp [ByteArray.get!, getElem!_pos, hj']] at h1
theorem parts_head_B (s : ByteArray) : (partsB 35 s).getD 0 strE.dflt = mkB (s.data.toList.takeWhile fun c => !(c == 35)) := by
  show ((partsL 35 s.data.toList).map mkB).getD 0 strE.dflt = _
  have h := parts_head s.data.toList
  cases hp : partsL 35 s.data.toList with
  | nil => exact absurd hp (partsL_ne _ _)
  | cons a t =>
    rw [hp] at h
    simp only [List.head?_cons, Option.some.injEq] at h
    rw [← h]; rfl
theorem head_no35 (s : ByteArray) : ∀ c ∈ ((partsB 35 s).getD 0 strE.dflt).data.toList, c ≠ 35 := by
  rw [parts_head_B, mkB_list]
  exact take_no _
theorem head_words (s : ByteArray) : wordsB ((partsB 35 s).getD 0 strE.dflt) = wordsB s := by
  rw [parts_head_B]
  unfold wordsB
  rw [mkB_list]
  unfold wordsL
  rw [← wGo_hash]
/-- lines -/
def linesB : List ByteArray → Nat → List (Int × List ByteArray) → List (Int × List ByteArray) × Int × Int
  | [], _, out => (out, 0, 0)
  | l :: t, i, out => if ¬ prB l then ([], (i : Int) + 1, 4) else if 64 < (wordsB l).length then ([], (i : Int) + 1, 3) else linesB t (i + 1) (if 0 < (wordsB l).length then out ++ [((i : Int) + 1, wordsB l)] else out)
def linesS (s : ByteArray) : List (Int × List ByteArray) × Int × Int := if 16384 < s.size then ([], 0, 3) else linesB (partsB 10 s) 0 []
theorem linesB_at {ps : List ByteArray} {k : Nat} {o : List (Int × List ByteArray)} (hk : k < ps.length) : linesB (ps.drop k) k o =
    if ¬ prB (ps.getD k strE.dflt) then ([], (k : Int) + 1, 4) else if 64 < (wordsB (ps.getD k strE.dflt)).length then ([], (k : Int) + 1, 3) else linesB (ps.drop (k + 1)) (k + 1) (if 0 < (wordsB (ps.getD k strE.dflt)).length then o ++ [((k : Int) + 1, wordsB (ps.getD k strE.dflt))] else o) := by
  rw [List.drop_eq_getElem_cons hk, linesB, show ps.getD k strE.dflt = ps[k] from by rw [List.getD_eq_getElem?_getD, List.getElem?_eq_getElem hk]; rfl]
theorem linesB_end {ps : List ByteArray} {k : Nat} {o : List (Int × List ByteArray)} (hk : ps.length ≤ k) : linesB (ps.drop k) k o = (o, 0, 0) := by
  rw [List.drop_of_length_le hk, linesB]
end Go.Proofs.YtmaiillomoehgaaDoor.V
