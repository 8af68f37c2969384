/- Lists of texts as arguments: no text is longer than the arguments' bulk. -/
import Derived.Test.YtmaiillomoehgaaDoorGrpO
set_option linter.unusedVariables false
set_option linter.unusedSimpArgs false
namespace Go.Proofs.YtmaiillomoehgaaDoor
open Go.ChangeShapes Go.WideShapes Go.ChangeAt Go.RowKit Go.Deep Go.ChangeMaps
section
variable {H : Type} {enc : TypeId × Value → H} {P : Program} {W : World}
theorem bulk_mem {d : DataW H} : ∀ {l : List (DataW H)}, d ∈ l → Rows.uptoBulk d ≤ Rows.uptoBulkAll l
  | x :: r, h => by
    rw [Rows.uptoBulkAll]
    rcases List.mem_cons.1 h with e | e
    · subst e; omega
    · have := bulk_mem e; omega
theorem strs_small {t e : TypeId} {s : V.Sl ByteArray} {d : DataW H} {ps : List MemPlace} (ht : P.underlying t = some (.slice e)) (he : P.underlying e = some .string) (hc : P.cellsOf e = 1)
    (h : DataW.Trod enc P W 0 (fun _ => true) true t (.slice s.a s.xs.length s.c) d ps) (hs : (V.slE V.strE).wf (V.Fr V.No []) W.heap s) : ∀ x ∈ s.xs, x.size ≤ Rows.uptoBulk d := by
  intro x hx
  obtain ⟨i, hi, rfl⟩ := List.getElem_of_mem hx
  obtain ⟨fuel, hf⟩ := h
  rcases open_slice ht hf with ⟨h1, _⟩ | ⟨a, len, cap, m, n, D, Pl, h1, hb, hl, hm, hmm, hxe, hxx⟩
  · have h1' : [Value.slice s.a s.xs.length s.c] = [Value.slice none 0 0] := h1
    have := List.head_eq_of_cons_eq h1'
    injection this with _ q _
    omega
  · have h1' : [Value.slice s.a s.xs.length s.c] = [Value.slice (some a) len cap] := h1
    have := List.head_eq_of_cons_eq h1'
    injection this with q1 q2 q3
    subst q2 q3
    simp only [if_true] at hmm
    obtain ⟨cs', g1, g2⟩ := hxx i (by omega)
    obtain ⟨z, rfl, g3, _⟩ := DataW.trod_string he g2
    have ha := (hs.1.ad (by omega)).1
    have e1 : a = ⟨V.blk s.a, V.off s.a, none⟩ := Option.some.inj (q1.symm.trans ha)
    subst e1
    have g4 := (World.cells?_some g1).2.2 0 (by rw [hc]; exact Nat.one_pos)
    have g5 := hs.1.cell i hi 0 (.string s.xs[i]) (by rw [List.getD_eq_getElem?_getD, List.getElem?_eq_getElem hi]; rfl)
    rw [hc, Nat.mul_one, add_plain, add_plain] at g4
    have g6 : W.cell? ⟨V.blk s.a, V.off s.a + i * 1 + 0, none⟩ = some (.string s.xs[i]) := g5
    rw [Nat.mul_one] at g6
    rw [g6] at g4
    have g7 : s.xs[i] = z := by simpa using g4
    have g8 : D i = .lit (.string z.data.toList) := congrArg Prod.fst g3
    have hd : d = .slice ((List.range s.xs.length).map D) ((List.range (m - s.xs.length)).map fun j => D (s.xs.length + j)) := congrArg Prod.fst hxe
    have hin := bulk_mem (H := H) (List.mem_map_of_mem (f := D) (List.mem_range.2 hi))
    rw [hd, Rows.uptoBulk, g7, size_len]
    rw [g8, Rows.uptoBulk] at hin
    omega
end
end Go.Proofs.YtmaiillomoehgaaDoor
