/- Append of one new element to a slice of the call's own: the kit's law, its side conditions paid once. -/
import Derived.Test.YtekhggaafeonjaaDoorLib
namespace Go.Proofs.YtekhggaafeonjaaDoor
open Go.RowKit
section
variable {P : Program}
theorem grown_below {base : Nat} {w w' : World} {e : TypeId} {size : Nat} {v : Value} {n : Nat} {xs : List Value} (hown : w.ownsRow base e size v n xs) (hg : w.grownBy w' v.ownBlock) (hbase : base ≤ w.heap.size) : Below base w w' :=
  (Below.refl _ _).grown hg hbase fun k hk => (hown.lt k hk).1
/-- x = append(x, e): the new element's cells are the last block. -/
theorem wpList_append_new {ops : Array Oper} {rest : List Oper} {o : Oper} {a : Act} {Q : Exit → Act → World → Prop} (hgd : o.guard = none) (s x : Operand) (t : TypeId)
    (ho : o.op = .call { callee := .builtin .append, args := #[s, x], argTypes := #[t, t] })
    (base : Nat) (e e' : TypeId) (z : Value) (size bytes : Nat) (ht : P.underlying t = some (.slice e)) (hi : (P.info? e).map (fun i => (i.zero, i.size, i.bytes)) = some (some z, size, bytes))
    (hzs : z.cells.size = size) (hsz : 0 < size)
    (v : Value) (n : Nat) (xs : List Value) (hs : a.eval s = v) {w : World} (hown : w.ownsRow base e size v n xs)
    (vals : Array Value) (hx : a.eval x = .slice (some ⟨w.heap.size, 0, none⟩) 1 1) (hl : vals.size = size) (h1 : ∀ u ∈ vals.toList, u.oneCell' = true)
    (hbytes : (n + 1) * bytes ≤ 140737488355328) (hb1 : 1 ≤ bytes) (hbase : base ≤ w.heap.size)
    (h : ∀ v' w', w'.ownsRow base e size v' (n + 1) (xs ++ vals.toList) → Below base w w' → (w.alloc (.cells vals e')).grownBy w' v.ownBlock → (∃ ad c, v' = .slice (some ad) (n + 1) c) → wpList P ops Q rest (a.put o.dst v') w') :
    wpList P ops Q (o :: rest) a (w.alloc (.cells vals e')) := by
  obtain ⟨i0, hi0, hz0, hz1, hz2⟩ := info_parts hi
  have hn : n + 1 ≤ 140737488355328 := Nat.le_trans (Nat.le_mul_of_pos_right (n + 1) hb1) hbytes
  refine wpList_append_own _ hgd s x t ho base e i0 z size bytes ht hi0 hz0 hz1 hz2 hzs hsz v n xs hs (hown.alloc _) ⟨w.heap.size, 0, none⟩ 1 1 vals.toList hx (by simp [hl]) ?_ h1 (by unfold maxLen; omega) hbytes (by simp; omega) fun v' w' h2 h3 h4 => ?_
  · intro j u hj
    rw [show (⟨w.heap.size, 0, none⟩ : Addr).add j = ⟨w.heap.size, j, none⟩ by simp only [Addr.add, Nat.zero_add]; split <;> simp_all]
    rw [World.cell?_alloc_at _ _ _ _ rfl]
    simpa using hj
  · refine h v' w' h2 (((Below.refl _ _).alloc hbase _).trans (grown_below (hown.alloc _) h3 (by simp; omega))) h3 ?_
    rcases h2.2 with ⟨_, h0⟩ | ⟨g, cap, cur, hv, _⟩
    · omega
    · exact ⟨_, _, hv⟩
end
end Go.Proofs.YtekhggaafeonjaaDoor
