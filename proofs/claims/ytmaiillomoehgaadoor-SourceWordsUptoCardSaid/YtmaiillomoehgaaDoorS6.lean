/- the generator: a text that is spoiled -/
import Derived.Test.YtmaiillomoehgaaDoorS5
import Derived.Test.YtmaiillomoehgaaDoorGrpV
namespace Go.Proofs.YtmaiillomoehgaaDoor.V
open Go.RowKit Go.Proofs.YtmaiillomoehgaaDoor
set_option linter.unusedVariables false
set_option linter.unusedSimpArgs false
theorem St.new0 {F : Nat → Prop} {w0 w : World} {n : Nat} {L : List (Nat × Value)} {rs : List RF} {os : List OF} {a : Act} (S : St F w0 [] n L rs os a w) {k : Nat} (h : In (ow os) k) : w0.heap.size ≤ k := (S.m.c.sub k h).elim False.elim id
theorem gText (w : World) (F : Nat → Prop) (hF : Old F w) (T : Nat) (M : MS [one T] w) (T_l : Sl Int) (T_w : (slE intE).wf (Fr F [one T]) w.heap T_l) (T_K : TpB 58 T T_l w) (s : ByteArray) (s_h : inStr s) (hb : s.size ≤ 1099511627776) (hT : 0 < T_l.xs.length → blk T_l.a < T) :
 Calls Tryd.prog 12 #[pT T 0, .string s] w fun e w' => ∃ (r : ByteArray), e = .returned (.string r) ∧ strE.wf (Fr F [one T]) w'.heap r ∧ r.size ≤ s.size + 1 ∧ TpB 58 T T_l w' ∧ Tr [one T] w [one T] w' := by
 obtain ⟨i, hi, hK⟩ := T_K
 have hL := T_w.1
 have hTp : TL.Tp (sV T_l, T_l.xs.length) T w := by
  refine ⟨i, hi, hL.len, hK, T_l.a, T_l.c, rfl, ?_⟩
  rcases Nat.eq_zero_or_pos T_l.xs.length with h0 | h0
  ·exact .inl h0
  have ha := hL.ad h0
  refine .inr ⟨blk T_l.a, off T_l.a, ha.1, hT h0, fun j hj => ⟨T_l.xs.getD j intE.dflt, ?_, (hL.wf j hj).1, (hL.wf j hj).2⟩⟩
  have h1 := hL.cell j hj 0 _ rfl
  show hcell w.heap (blk T_l.a) (off T_l.a + j) = _
  have h2 : off T_l.a + j * intE.n + 0 = off T_l.a + j := by show off T_l.a + j * 1 + 0 = _; omega
  rw [h2] at h1
  exact h1
 refine (TL.gen_Text T s hb w hTp).mono fun e w' ⟨t, he, ht, hT', hk⟩ => ?_
 obtain ⟨i', hi', _, hb', _⟩ := hT'
 refine ⟨t, he, (by show t.size ≤ maxLen; unfold maxLen; omega), ht, ⟨i', hi', hb'⟩, ⟨⟨hk.os, hk.tape, hk.output, hk.size, fun k hk1 hk2 => hk.block k hk1 fun e => hk2 (.inl e)⟩, fun k h => .inl h, ⟨fun k h => ?_, ⟨fun _ _ h => h, trivial⟩⟩⟩⟩
 rcases h with h | h
 ·have hlt : T < w'.heap.size := by
   rcases Nat.lt_or_ge T w'.heap.size with g | g
   ·exact g
   rw [Array.getElem?_eq_none g] at hb'; cases hb'
  rw [show k = T from h]; exact hlt
 exact h.elim
end Go.Proofs.YtmaiillomoehgaaDoor.V
