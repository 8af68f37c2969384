/- A strings.Builder as an object of the call's own: what WriteString, WriteByte and String do to it. -/
import Derived.Test.YtmaiillomoehgaaDoorShelf
import Derived.Test.YtmaiillomoehgaaDoorGrpD
import Derived.Test.YtmaiillomoehgaaDoorComS
set_option linter.unusedVariables false
set_option linter.unusedSimpArgs false
namespace Go.Proofs.YtmaiillomoehgaaDoor.V
open Go.RowKit Go.Shelf
theorem lay166 : Go.Proofs.Lays.n166 Tryd.prog Tryd.lays156_ren := {
  mixed := Tryd.lays156.mixed,
  f166 := Tryd.lays156.f166,
  f240 := Tryd.lays156.f240,
  f276 := Tryd.lays156.f276,
  t0 := Tryd.lays156.t0,
  a0 := Tryd.lays156.a0,
  z0 := Tryd.lays156.z0,
  v0 := Tryd.lays156.v0,
  t3 := Tryd.lays156.t3,
  a3 := Tryd.lays156.a3,
  z3 := Tryd.lays156.z3,
  v3 := Tryd.lays156.v3,
  t4 := Tryd.lays156.t4,
  a4 := Tryd.lays156.a4,
  z4 := Tryd.lays156.z4,
  v4 := Tryd.lays156.v4,
  t9 := Tryd.lays156.t9,
  a9 := Tryd.lays156.a9,
  z9 := Tryd.lays156.z9,
  v9 := Tryd.lays156.v9,
  t20 := Tryd.lays156.t20,
  a20 := Tryd.lays156.a20,
  z20 := Tryd.lays156.z20,
  v20 := Tryd.lays156.v20,
  t37 := Tryd.lays156.t37,
  a37 := Tryd.lays156.a37,
  z37 := Tryd.lays156.z37,
  v37 := Tryd.lays156.v37,
  t70 := Tryd.lays156.t70,
  a70 := Tryd.lays156.a70,
  z70 := Tryd.lays156.z70,
  v70 := Tryd.lays156.v70,
  t72 := Tryd.lays156.t72,
  a72 := Tryd.lays156.a72,
  z72 := Tryd.lays156.z72,
  v72 := Tryd.lays156.v72,
  t75 := Tryd.lays156.t75,
  a75 := Tryd.lays156.a75,
  z75 := Tryd.lays156.z75,
  v75 := Tryd.lays156.v75,
  t164 := Tryd.lays156.t164,
  a164 := Tryd.lays156.a164,
  z164 := Tryd.lays156.z164,
  v164 := Tryd.lays156.v164 }
def ren167 : Go.Shelf.Ren := ⟨fun | 167 => 38 | 240 => 47 | 276 => 54 | n => n, fun | 31 => 29 | 9 => 9 | 3 => 3 | 4 => 4 | 0 => 0 | 20 => 20 | 72 => 68 | 76 => 71 | 70 => 66 | 37 => 59 | 75 => 70 | 127 => 80 | 164 => 84 | 5 => 5 | 80 => 75 | n => n, fun n => n⟩
theorem lay167 : Go.Proofs.Lays.n167 Tryd.prog ren167 := {
  mixed := by kernel_rfl
  f167 := Tryd.func38.trans (congrArg some (by kernel_rfl))
  f240 := Tryd.func47.trans (congrArg some (by kernel_rfl))
  f276 := Tryd.func54.trans (congrArg some (by kernel_rfl))
  t0 := Tryd.underlying0
  a0 := Tryd.isAgg0
  z0 := Tryd.sizeOf0
  v0 := Tryd.zeroValue0
  t4 := Tryd.underlying4
  a4 := Tryd.isAgg4
  z4 := Tryd.sizeOf4
  v4 := Tryd.zeroValue4
  t5 := Tryd.underlying5
  a5 := Tryd.isAgg5
  z5 := Tryd.sizeOf5
  v5 := Tryd.zeroValue5
  t9 := Tryd.underlying9
  a9 := Tryd.isAgg9
  z9 := Tryd.sizeOf9
  v9 := Tryd.zeroValue9
  t20 := Tryd.underlying20
  a20 := Tryd.isAgg20
  z20 := Tryd.sizeOf20
  v20 := Tryd.zeroValue20
  t37 := Tryd.underlying59
  a37 := Tryd.isAgg59
  z37 := Tryd.sizeOf59
  v37 := Tryd.zeroValue59
  t70 := Tryd.underlying66
  a70 := Tryd.isAgg66
  z70 := Tryd.sizeOf66
  v70 := Tryd.zeroValue66
  t72 := Tryd.underlying68
  a72 := Tryd.isAgg68
  z72 := Tryd.sizeOf68
  v72 := Tryd.zeroValue68
  t75 := Tryd.underlying70
  a75 := Tryd.isAgg70
  z75 := Tryd.sizeOf70
  v75 := Tryd.zeroValue70
  t164 := Tryd.underlying84
  a164 := Tryd.isAgg84
  z164 := Tryd.sizeOf84
  v164 := Tryd.zeroValue84 }
theorem ext167 : Builder.Extra Tryd.prog ren167 := {
  sizeBuilder := by kernel_rfl
  liesBuilder := by kernel_rfl
  t5 := Tryd.underlying5
  a5 := Tryd.isAgg5
  z5 := Tryd.sizeOf5
  v5 := Tryd.zeroValue5
  infoByte := by kernel_rfl
  cellsByte := by kernel_rfl
  sizeByte := by kernel_rfl
  neB5 := by decide }
abbrev IsB (b : Nat) (l : List UInt8) (w : World) : Prop := Lib.IsBuilder 68 5 b b (Lib.byteCells l) w
theorem atB_keep {b : Nat} {p : Value} {bs : List Value} {w w1 : World} (h : Lib.BuilderAt 68 5 b b p bs w1) (k : ∀ k, b ≤ k → k < w1.heap.size → w.heap[k]? = w1.heap[k]?) : Lib.BuilderAt 68 5 b b p bs w := by
  have hlt := h.lt
  obtain ⟨h1, v, h2, h3, h4⟩ := h
  refine ⟨h1, v, (k b (Nat.le_refl _) hlt).trans h2, ⟨h3.1, ?_⟩, h4⟩
  rcases h3.2 with q | ⟨g, cap, cur, q1, q2, q3, q4⟩
  · exact .inl q
  · refine .inr ⟨g, cap, cur, q1, q2, (k g q2 ?_).trans q3, q4⟩
    rcases Nat.lt_or_ge g w1.heap.size with r | r
    · exact r
    · rw [Array.getElem?_eq_none r] at q3; cases q3
theorem isB_keep {b : Nat} {l : List UInt8} {w w1 : World} (h : IsB b l w1) (k : ∀ k, b ≤ k → k < w1.heap.size → w.heap[k]? = w1.heap[k]?) : IsB b l w :=
  h.imp (fun h => atB_keep h k) fun h => atB_keep h k
theorem isB_new {b : Nat} {w : World} (h : Blk w.heap b [.pointer none, .slice none 0 0] 68) : IsB b [] w :=
  .inl ⟨Nat.le_refl _, _, h, ⟨rfl, .inl ⟨rfl, rfl⟩⟩, by simp [Value.ownBlock]⟩
/-- the builder at b holds the bytes l; what it uses lies in the blocks from b to n -/
def bdO (b : Nat) (l : List UInt8) (n : Nat) : OF :=
  ⟨fun k => b ≤ k ∧ k < n, fun _ _ w => ∃ w1 : World, w1.heap.size = n ∧ n ≤ w.heap.size ∧ IsB b l w1 ∧ ∀ k, b ≤ k → k < n → w.heap[k]? = w1.heap[k]?, fun m h H => by
    obtain ⟨w1, h1, h2, h3, h4⟩ := H
    exact ⟨w1, h1, Nat.le_trans h2 m.1, h3, fun k hk hn => (h k (by omega) ⟨hk, hn⟩).trans (h4 k hk hn)⟩⟩
section
variable {F : Nat → Prop} {w0 w w' : World} {n : Nat} {L L' : List (Nat × Value)} {rs : List RF} {os : List OF} {a a' : Act} {b : Nat} {l : List UInt8}
theorem St.bd {m : Nat} (S : St F w0 [] n L rs os a w) (i : Nat) (h : nth os i = some (bdO b l m)) : IsB b l w := by
  obtain ⟨w1, h1, _, h3, h4⟩ := S.m.o _ (nth_mem h)
  exact isB_keep h3 fun k hk hn => h4 k hk (by omega)
theorem St.nw0 (S : St F w0 [] n L rs os a w) {k : Nat} (h : In (ow os) k) : w0.heap.size ≤ k := (S.m.c.sub k h).elim False.elim id
/-- what is read lay in the world in which the call began: so it stands in every world above -/
theorem St.bdn (S : St F w0 [] n L rs os a w) (hr : RAll F (In []) w0.heap rs) (s : Slots n L' a') (hb : w0.heap.size ≤ b) (h : IsB b l w') (g : Below b w w') : ∃ m, St F w0 [] n L' rs [bdO b l m] a' w' := by
  have c0 := S.m.c.ch
  have c1 : Ch (In []) w0 w' := c0.own (M' := fun k => b ≤ k) ⟨g.os, g.tape, g.output, g.size, fun k hk hm => g.block k (by omega)⟩ fun k hk => Nat.le_trans hb hk
  refine ⟨w'.heap.size, s, ⟨c1, fun k hk => .inr ?_, ⟨fun k hk => ?_, ⟨fun _ _ h => h, trivial⟩⟩⟩, S.m.f, fun f hf => ?_, fun f hf => ?_⟩
  · rcases hk with h | h
    · exact Nat.le_trans hb h.1
    · exact h.elim
  · rcases hk with h | h
    · exact h.2
    · exact h.elim
  · refine f.st (W := In []) ⟨c1.size, fun k hk hn => ⟨c1.block k hk hn, fun hm => ?_⟩⟩ (hr.get f hf)
    rcases hm with h | h
    · have := h.1; omega
    · exact h.elim
  · obtain rfl : f = _ := by simpa using hf
    exact ⟨w', rfl, Nat.le_refl _, h, fun _ _ _ => rfl⟩
end
theorem bWS {b : Nat} {l : List UInt8} {w : World} (x : ByteArray) (h : IsB b l w) (hs : l.length + x.size ≤ 140737488355328) :
    Calls Tryd.prog 36 #[.pointer (some ⟨b, 0, none⟩), .string x] w fun e w' => e = .returned (.tuple #[.int .i64 x.size, .nilIface]) ∧ IsB b (l ++ x.data.toList) w' ∧ Below b w w' := by
  have hl : b ≤ w.heap.size := by rcases h with q | q <;> exact Nat.le_of_lt q.lt
  refine (Go.Proofs.Any.Builder_WriteString lay166 Tryd.Builder_Extra_156 b b _ x w h (by rw [Lib.byteCells_length]; exact hs) hl).mono ?_
  rintro e w' ⟨h1, h2, h3⟩
  refine ⟨h1, .inr ?_, h3⟩
  rw [Lib.byteCells_append]; exact h2
theorem bWB {b : Nat} {l : List UInt8} {w : World} (x : UInt8) (h : IsB b l w) (hs : l.length + 1 ≤ 140737488355328) :
    Calls Tryd.prog 38 #[.pointer (some ⟨b, 0, none⟩), .int .u8 x.toNat] w fun e w' => e = .returned .nilIface ∧ IsB b (l ++ [x]) w' ∧ Below b w w' := by
  have hl : b ≤ w.heap.size := by rcases h with q | q <;> exact Nat.le_of_lt q.lt
  refine (Go.Proofs.Any.Builder_WriteByte lay167 ext167 b b _ x.toNat w h (by rw [Lib.byteCells_length]; exact hs) hl).mono ?_
  rintro e w' ⟨h1, h2, h3⟩
  refine ⟨h1, .inr ?_, h3⟩
  rw [Lib.byteCells_append]; exact h2
theorem bStr {b : Nat} {l : List UInt8} {w : World} (h : IsB b l w) :
    Calls Tryd.prog 39 #[.pointer (some ⟨b, 0, none⟩)] w fun e w' => e = .returned (.string ⟨l.toArray⟩) ∧ Below b w w' := by
  have hl : b ≤ w.heap.size := by rcases h with q | q <;> exact Nat.le_of_lt q.lt
  exact Tryd.Builder_String_any b b l w h hl
theorem St.bd0 {F : Nat → Prop} {w0 w w' : World} {n : Nat} {L L' : List (Nat × Value)} {rs : List RF} {os : List OF} {a a' : Act} {b : Nat} (S : St F w0 [] n L rs os a w) (hr : RAll F (In []) w0.heap rs) (s : Slots n L' a') (hb : w0.heap.size ≤ b) (g : Below b w w') : St F w0 [] n L' rs [] a' w' := by
  have c1 : Ch (In []) w0 w' := S.m.c.ch.own (M' := fun k => b ≤ k) ⟨g.os, g.tape, g.output, g.size, fun k hk hm => g.block k (by omega)⟩ fun k hk => Nat.le_trans hb hk
  exact ⟨s, ⟨c1, fun k hk => hk.elim, ⟨fun k hk => hk.elim, trivial⟩⟩, S.m.f, fun f hf => f.st (W := In []) ⟨c1.size, fun k hk hn => ⟨c1.block k hk hn, fun hm => hm⟩⟩ (hr.get f hf), fun f hf => by simp at hf⟩
theorem jl_join : ∀ l : List (List UInt8), Lib.join l [32] = jl l
  | [] => rfl
  | [x] => Lib.join_one x [32]
  | x :: y :: r => by
    rw [Lib.join_cons]
    have h := jl_join (y :: r)
    rw [Lib.join_cons] at h
    show x ++ Lib.joinTail [32] (y :: r) = x ++ 32 :: jl (y :: r)
    rw [← h]; simp [Lib.joinTail]
theorem jl_cnt : ∀ l : List (List UInt8), l.length ≤ (jl l).length + 1
  | [] => Nat.zero_le _
  | [x] => by simp
  | x :: y :: r => by
    have h := jl_cnt (y :: r)
    show (x :: y :: r).length ≤ (x ++ 32 :: jl (y :: r)).length + 1
    simp only [List.length_cons, List.length_append] at h ⊢; omega

end Go.Proofs.YtmaiillomoehgaaDoor.V
