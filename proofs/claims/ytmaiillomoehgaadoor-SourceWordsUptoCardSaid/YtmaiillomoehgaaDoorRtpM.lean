/- Package source, plain: words are read back from the lines that are made of them. -/
import Derived.Test.YtmaiillomoehgaaDoorComS
set_option linter.unusedVariables false
set_option linter.unusedSimpArgs false
namespace Go.Proofs.YtmaiillomoehgaaDoor.V
open Go.RowKit Go.Proofs.YtmaiillomoehgaaDoor
/-- a byte inside a word -/
def cw (c : UInt8) : Prop := prC c = true ∧ c ≠ 35 ∧ Proofs.YtmaiillomoehgaaDoor.blk c = false
def gw (w : List UInt8) : Prop := w ≠ [] ∧ (∀ c ∈ w, cw c) ∧ ((∃ c, w = [c] ∧ sepB c = true) ∨ ∀ c ∈ w, sepB c = false)
theorem flush_gw {cur : List UInt8} (h : ∀ c ∈ cur, cw c ∧ sepB c = false) : ∀ w ∈ Proofs.YtmaiillomoehgaaDoor.flush cur, gw w := by
  intro w hw
  unfold Proofs.YtmaiillomoehgaaDoor.flush at hw
  split at hw
  · simp at hw
  · rename_i h0
    obtain rfl : w = cur := by simpa using hw
    exact ⟨h0, fun c hc => (h c hc).1, .inr fun c hc => (h c hc).2⟩
theorem wGo_gw : ∀ (l cur : List UInt8), (∀ c ∈ l, prC c = true) → (∀ c ∈ cur, cw c ∧ sepB c = false) → ∀ w ∈ wGo l cur, gw w
  | [], cur, _, h2 => by rw [wGo]; exact flush_gw h2
  | c :: l, cur, h1, h2 => by
    have hl : ∀ c ∈ l, prC c = true := fun x hx => h1 x (List.mem_cons_of_mem _ hx)
    have hc := h1 c List.mem_cons_self
    have hn : ∀ c ∈ ([] : List UInt8), cw c ∧ sepB c = false := fun _ h => by simp at h
    rw [wGo]
    split
    · exact flush_gw h2
    · rename_i h35
      split
      · intro w hw
        rcases List.mem_append.1 hw with h | h
        · exact flush_gw h2 w h
        · exact wGo_gw l [] hl hn w h
      · rename_i hb
        have hb : Proofs.YtmaiillomoehgaaDoor.blk c = false := by simpa using hb
        split
        · rename_i hs
          intro w hw
          rcases List.mem_append.1 hw with h | h
          · exact flush_gw h2 w h
          · rcases List.mem_cons.1 h with h | h
            · subst h
              exact ⟨by simp, fun x hx => by obtain rfl : x = c := by simpa using hx
                                             exact ⟨hc, h35, hb⟩, .inl ⟨c, rfl, hs⟩⟩
            · exact wGo_gw l [] hl hn w h
        · rename_i hs
          refine wGo_gw l _ hl fun x hx => ?_
          rcases List.mem_append.1 hx with h | h
          · exact h2 x h
          · obtain rfl : x = c := by simpa using h
            exact ⟨⟨hc, h35, hb⟩, by simpa using hs⟩
theorem wGo_run : ∀ (w l cur : List UInt8), (∀ c ∈ w, cw c) → (∀ c ∈ w, sepB c = false) → wGo (w ++ l) cur = wGo l (cur ++ w)
  | [], l, cur, _, _ => by simp
  | c :: w, l, cur, h1, h2 => by
    have hc := h1 c List.mem_cons_self
    have hs := h2 c List.mem_cons_self
    rw [List.cons_append, wGo, if_neg hc.2.1, if_neg (by rw [hc.2.2]; decide), if_neg (by rw [hs]; decide), wGo_run w l _ (fun x hx => h1 x (List.mem_cons_of_mem _ hx)) fun x hx => h2 x (List.mem_cons_of_mem _ hx)]
    simp
theorem wGo_sep {c : UInt8} (hc : cw c) (hs : sepB c = true) (l : List UInt8) : wGo (c :: l) [] = [c] :: wGo l [] := by
  rw [wGo, if_neg hc.2.1, if_neg (by rw [hc.2.2]; decide), if_pos hs]; rfl
theorem flush_ne {w : List UInt8} (h : w ≠ []) : Proofs.YtmaiillomoehgaaDoor.flush w = [w] := if_neg h
theorem wGo_sp (l cur : List UInt8) : wGo (32 :: l) cur = Proofs.YtmaiillomoehgaaDoor.flush cur ++ wGo l [] := by
  rw [wGo, if_neg (by decide), if_pos (by decide)]
/-- words are read back from their line -/
theorem words_jl : ∀ ws : List (List UInt8), (∀ w ∈ ws, gw w) → wordsL (jl ws) = ws
  | [], _ => by rfl
  | [w], h => by
    obtain ⟨h0, h1, h2⟩ := h w List.mem_cons_self
    show wGo w [] = [w]
    rcases h2 with ⟨c, rfl, hs⟩ | hs
    · rw [wGo_sep (h1 c List.mem_cons_self) hs]; rfl
    · have := wGo_run w [] [] h1 hs
      rw [List.append_nil] at this
      rw [this, List.nil_append, wGo, flush_ne h0]
  | w :: v :: t, h => by
    obtain ⟨h0, h1, h2⟩ := h w List.mem_cons_self
    have ih := words_jl (v :: t) fun x hx => h x (List.mem_cons_of_mem _ hx)
    show wGo (w ++ 32 :: jl (v :: t)) [] = _
    unfold wordsL at ih
    rcases h2 with ⟨c, rfl, hs⟩ | hs
    · rw [List.singleton_append, wGo_sep (h1 c List.mem_cons_self) hs, wGo_sp, ih]; rfl
    · rw [wGo_run w _ [] h1 hs, List.nil_append, wGo_sp, flush_ne h0, ih]; rfl
theorem jl_pr : ∀ ws : List (List UInt8), (∀ w ∈ ws, gw w) → ∀ c ∈ jl ws, prC c = true
  | [], _ => fun _ h => by simp [jl] at h
  | [w], h => fun c hc => ((h w List.mem_cons_self).2.1 c hc).1
  | w :: v :: t, h => fun c hc => by
    have hc : c ∈ w ++ 32 :: jl (v :: t) := hc
    rcases List.mem_append.1 hc with k | k
    · exact ((h w List.mem_cons_self).2.1 c k).1
    · rcases List.mem_cons.1 k with k | k
      · subst k; decide
      · exact jl_pr (v :: t) (fun x hx => h x (List.mem_cons_of_mem _ hx)) c k
theorem jl_bd (N : Nat) : ∀ ws : List (List UInt8), (∀ w ∈ ws, w.length ≤ N) → (jl ws).length ≤ ws.length * (N + 1)
  | [], _ => Nat.zero_le _
  | [w], h => by have := h w List.mem_cons_self; show w.length ≤ 1 * (N + 1); omega
  | w :: v :: t, h => by
    have ih := jl_bd N (v :: t) fun x hx => h x (List.mem_cons_of_mem _ hx)
    have := h w List.mem_cons_self
    show (w ++ 32 :: jl (v :: t)).length ≤ (t.length + 1 + 1) * (N + 1)
    rw [List.length_append, List.length_cons]
    rw [List.length_cons] at ih
    rw [Nat.add_mul (t.length + 1) 1]; omega
/-- the words of a line that is accepted -/
def QW (ws : List ByteArray) : Prop := 0 < ws.length ∧ ws.length ≤ 64 ∧ ∀ w ∈ ws, gw (bl w) ∧ w.size ≤ 16384
theorem wordsB_gw {p : ByteArray} (h : prB p) (hs : p.size ≤ 16384) : ∀ w ∈ wordsB p, gw (bl w) ∧ w.size ≤ 16384 := by
  intro w hw
  obtain ⟨l, hl, rfl⟩ := List.mem_map.1 hw
  have h1 := wGo_gw p.data.toList [] (by unfold prB at h; rw [List.all_eq_true] at h; exact h) (fun _ h => by simp at h) l hl
  have h2 := wGo_le p.data.toList [] l hl
  rw [← size_len] at h2
  rw [bl_mk, mkB_size]
  exact ⟨h1, by simp only [List.length_nil] at h2; omega⟩
theorem linesB_Q : ∀ (ps : List ByteArray) (i : Nat) (out A : List (Int × List ByteArray)) (m : Int), (∀ p ∈ ps, p.size ≤ 16384) → (∀ x ∈ out, QW x.2) → linesB ps i out = (A, m, 0) → (∀ x ∈ A, QW x.2) ∧ A.length ≤ out.length + ps.length ∧ m = 0
  | [], i, out, A, m, _, h2, e => by
    rw [linesB] at e
    simp only [Prod.mk.injEq] at e
    obtain ⟨rfl, h3, _⟩ := e
    exact ⟨h2, by simp, h3.symm⟩
  | p :: t, i, out, A, m, h1, h2, e => by
    rw [linesB] at e
    split at e
    · simp at e
    · rename_i hp
      have hp := Classical.not_not.1 hp
      split at e
      · simp at e
      · rename_i h64
        have hQ : ∀ x ∈ (if 0 < (wordsB p).length then out ++ [((i : Int) + 1, wordsB p)] else out), QW x.2 := by
          split
          · rename_i h0
            intro x hx
            rcases List.mem_append.1 hx with k | k
            · exact h2 x k
            · obtain rfl : x = _ := by simpa using k
              exact ⟨h0, by show (wordsB p).length ≤ 64; omega, wordsB_gw hp (h1 p List.mem_cons_self)⟩
          · exact h2
        obtain ⟨g1, g2, g3⟩ := linesB_Q t (i + 1) _ A m (fun q hq => h1 q (List.mem_cons_of_mem _ hq)) hQ e
        refine ⟨g1, ?_, g3⟩
        rw [List.length_cons]
        split at g2
        · simp at g2; omega
        · omega
theorem linesB_err : ∀ (ps : List ByteArray) (i : Nat) (out : List (Int × List ByteArray)), (linesB ps i out).2.2 ≠ 0 → (linesB ps i out).1 = []
  | [], i, out => fun h => absurd rfl h
  | p :: t, i, out => by
    rw [linesB]
    split
    · intro _; rfl
    · split
      · intro _; rfl
      · exact linesB_err t (i + 1) _
theorem linesS_err {s : ByteArray} (h : (linesS s).2.2 ≠ 0) : (linesS s).1 = [] := by
  unfold linesS at *
  split
  · rfl
  · rename_i h0
    rw [if_neg h0] at h
    exact linesB_err _ _ _ h
theorem linesS_ok {s : ByteArray} (h : (linesS s).2.2 = 0) : (∀ x ∈ (linesS s).1, QW x.2) ∧ (linesS s).1.length ≤ 16385 ∧ (linesS s).2.1 = 0 := by
  unfold linesS at *
  split at h
  · simp at h
  · rename_i h0
    rw [if_neg h0]
    have hp : ∀ p ∈ partsB 10 s, p.size ≤ 16384 := fun p hp => by
      obtain ⟨l, hl, rfl⟩ := List.mem_map.1 hp
      have := parts_le _ _ l hl
      rw [← size_len] at this
      rw [mkB_size]; omega
    have hl := parts_len 10 s
    have g := linesB_Q (partsB 10 s) 0 [] (linesB (partsB 10 s) 0 []).1 (linesB (partsB 10 s) 0 []).2.1 hp (fun _ h => by simp at h) (by rw [← h])
    exact ⟨g.1, by have := g.2.1; simp at this; omega, g.2.2⟩
theorem numW_all : ∀ (ls : List (List ByteArray)) (i : Nat), (∀ ws ∈ ls, 0 < ws.length) → (numW ls i).length = ls.length ∧ ∀ k, k < ls.length → (numW ls i).getD k (0, []) = (((i + k : Nat) : Int) + 1, ls.getD k [])
  | [], i, _ => ⟨rfl, fun k h => absurd h (Nat.not_lt_zero _)⟩
  | ws :: t, i, h => by
    have ih := numW_all t (i + 1) fun x hx => h x (List.mem_cons_of_mem _ hx)
    rw [numW, if_pos (h ws List.mem_cons_self)]
    refine ⟨by rw [List.length_cons, List.length_cons, ih.1], fun k hk => ?_⟩
    cases k with
    | zero => rfl
    | succ k =>
      have := ih.2 k (by simpa using hk)
      rw [List.getD_cons_succ, List.getD_cons_succ, this, show i + 1 + k = i + (k + 1) from by omega]
theorem rt_law {ls : List (List ByteArray)} (hQ : ∀ ws ∈ ls, QW ws) (hsz : (joinB ls).size ≤ 16384) : linesS (joinB ls) = (numW ls 0, 0, 0) := by
  have hg : ∀ ws ∈ ls, ∀ w ∈ ws.map bl, gw w := fun ws h w hw => by
    obtain ⟨x, hx, rfl⟩ := List.mem_map.1 hw
    exact ((hQ ws h).2.2 x hx).1
  have hw : ∀ ws ∈ ls, wordsB (mkB (jl (ws.map bl))) = ws := fun ws h => by
    unfold wordsB
    rw [mkB_list, words_jl _ (hg ws h), List.map_map]
    exact (List.map_congr_left fun x _ => (mkB_of x : (mkB ∘ bl) x = id x)).trans (List.map_id _)
  rw [lines_unseg (segs := ls.map fun ws => jl (ws.map bl)) (by rw [← joinL_unseg]; exact bl_mk _) hsz ?_ ?_, List.map_map, show ls.map ((fun x => wordsB (mkB x)) ∘ fun ws => jl (ws.map bl)) = ls from (List.map_congr_left (g := id) fun ws h => hw ws h).trans (List.map_id _)]
  · intro x hx b hb
    obtain ⟨ws, h, rfl⟩ := List.mem_map.1 hx
    have := jl_pr _ (hg ws h) b hb
    intro e; subst e; exact absurd this (by decide)
  · intro x hx
    obtain ⟨ws, h, rfl⟩ := List.mem_map.1 hx
    refine ⟨?_, by rw [hw ws h]; exact (hQ ws h).2.1⟩
    unfold prB
    rw [mkB_list, List.all_eq_true]
    exact jl_pr _ (hg ws h)
theorem joinL_bd : ∀ ls : List (List ByteArray), (∀ ws ∈ ls, QW ws) → (joinL ls).length ≤ ls.length * 1048641
  | [], _ => Nat.zero_le _
  | ws :: t, h => by
    have ih := joinL_bd t fun x hx => h x (List.mem_cons_of_mem _ hx)
    have hq := h ws List.mem_cons_self
    have h1 := jl_bd 16384 (ws.map bl) fun w hw => by
      obtain ⟨x, hx, rfl⟩ := List.mem_map.1 hw
      rw [bl_len]; exact (hq.2.2 x hx).2
    rw [List.length_map] at h1
    have h2 : ws.length * (16384 + 1) ≤ 64 * (16384 + 1) := Nat.mul_le_mul_right _ hq.2.1
    show (jl (ws.map bl) ++ [10] ++ joinL t).length ≤ (t.length + 1) * 1048641
    simp only [List.length_append, List.length_cons, List.length_nil]
    omega
end Go.Proofs.YtmaiillomoehgaaDoor.V
