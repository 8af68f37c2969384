/- More steps: captured blocks, results in cells, slices cut, lists made. -/
import Derived.Test.YtfanmniaolncbaaV5
import Derived.Laws.OwnMore
import Derived.OwnWalk
import Derived.WalkSpells
set_option linter.unusedVariables false
set_option linter.unusedSimpArgs false
namespace Go.Proofs.Ytfanmniaolncbaa.V
open Go.RowKit
/-- a block that nobody writes -/
structure BlkR (ms : List BS) (h : Array Obj) (b : Nat) (cs : List Value) (e : TypeId) : Prop where
  k : Blk h b cs e
  n : ¬ In ms b
theorem BlkR.tr {ms ms' : List BS} {w w' : World} {b : Nat} {cs : List Value} {e : TypeId} (r : BlkR ms w.heap b cs e) (T : Tr ms w ms' w') : BlkR ms' w'.heap b cs e :=
  ⟨(T.ch.block b r.k.lt r.n).trans r.k, fun h => (T.sub b h).elim r.n fun e => absurd e (by have := r.k.lt; omega)⟩
theorem BlkR.cell {ms : List BS} {h : Array Obj} {b j : Nat} {cs : List Value} {e : TypeId} {v : Value} (k : BlkR ms h b cs e) (hj : cs[j]? = some v) : hcell h b j = some v := k.k.cell hj
theorem BlkR.mid {ms : List BS} {h : Array Obj} {b : Nat} {all : List Value} {e : TypeId} (k : BlkR ms h b all e) (pre cs post : List Value) (ha : all = pre ++ (cs ++ post)) (f : Nat) (hf : pre.length = f) : ∀ j v, cs[j]? = some v → hcell h b (f + j) = some v := k.k.mid pre cs post ha f hf
section
variable {P : Program} {Q : Exit → Act → World → Prop} {n : Nat} {L : List (Nat × Value)} {a : Act} {w : World} {d : Option Tmp} {ty : TypeId} {pos : String} {af : Array Edge} {g : Option (Nat × Bool)}
theorem retc {fn : Func} {R : Ending → World → Prop} {t T : Nat} {b o : Nat} {v : Value} (hr : fn.results = #[.cell t T]) (S : Slots n L a) (hv : look t L = some (.pointer (some ⟨b, o, none⟩))) (hs : Scalar P T) (hc : hcell w.heap b o = some v) (h : R (.returned v) w) : bodyPost P fn R .ret a w := by
  refine ⟨S.defers, v, ?_, h⟩
  have hl : (loadVar T ⟨b, o, none⟩).run P w = .ok v w := by
    have hc' : w.cell? ⟨b, o, none⟩ = some v := hc
    simp [loadVar, run_isAgg_scalar hs, hc']
  have h1 := S.get t _ hv
  simp only [Array.getD_eq_getD_getElem?] at h1
  simp [results, hr, h1, asAddr, hl]
theorem retcw {fn : Func} {R : Ending → World → Prop} {t T : Nat} {b : Nat} (hr : fn.results = #[.cell t T]) (S : Slots n L a) (hv : look t L = some (.pointer (some ⟨b, 0, none⟩))) (cs : List Value) (hs : Wide P T cs.length) (hc : ∀ j v, cs[j]? = some v → hcell w.heap b (0 + j) = some v) (h : R (.returned (.agg cs.toArray)) w) : bodyPost P fn R .ret a w := by
  refine ⟨S.defers, _, ?_, h⟩
  have hl := run_loadVar_wide cs hs hc
  have h1 := S.get t _ hv
  simp only [Array.getD_eq_getD_getElem?] at h1
  simp [results, hr, h1, asAddr, hl]
theorem x_bpeql {x y : Operand} {xt yt : TypeId} {p q : Prop} [Decidable p] [Decidable q] (hu : P.underlying xt = some .bool) (hx : a.eval x = .bool (decide p)) (hy : a.eval y = .bool (decide q)) : (execOp a.eval ⟨d, .binOp .eql xt x y yt, ty, pos, af, g⟩).run P w = .ok (.value (.bool (decide (p ↔ q)))) w := by
  rw [x_beql hu hx hy]
  congr 3
  simp only [decide_eq_decide]
theorem x_bpneq {x y : Operand} {xt yt : TypeId} {p q : Prop} [Decidable p] [Decidable q] (hu : P.underlying xt = some .bool) (hx : a.eval x = .bool (decide p)) (hy : a.eval y = .bool (decide q)) : (execOp a.eval ⟨d, .binOp .neq xt x y yt, ty, pos, af, g⟩).run P w = .ok (.value (.bool (decide (¬ (p ↔ q))))) w := by
  rw [x_bneq hu hx hy]
  congr 3
  simp only [decide_eq_decide]
theorem x_allocz {e : TypeId} {z : Value} {size bytes : Nat} (cs : List Value) (hi : (P.info? e).map (fun i => (i.zero, i.size, i.bytes)) = some (some z, size, bytes)) (hv : z.cells = cs.toArray) :
    (execOp a.eval ⟨d, .alloc e, ty, pos, af, g⟩).run P w = .ok (.value (.pointer (some ⟨w.heap.size, 0, none⟩))) (w.alloc (.cells cs.toArray e)) := by
  obtain ⟨i, h1, h2, _⟩ := info_of hi
  exact x_alloc cs (by rw [h1]; exact h2) hv
/-- x[:h], the length named -/
theorem x_slhn {x y : Operand} {t e : TypeId} {s : Option Addr} {n c : Nat} {k : IntKind} {i : Int} {z : Value} {sz by_ : Nat} (ht : P.underlying t = some (.slice e)) (hi : (P.info? e).map (fun i => (i.zero, i.size, i.bytes)) = some (some z, sz, by_)) (hx : a.eval x = .slice s n c) (hy : a.eval y = .int k i) (m : Nat) (hm : i = (m : Int)) (hc : m ≤ c) (hs : s = none → c = 0) (n' : Nat) (hn : m = n') :
    (execOp a.eval ⟨d, .slice t x none (some y) none, ty, pos, af, g⟩).run P w = .ok (.value (.slice s n' c)) w := by
  subst hn; exact x_slhi ht hi hx hy m hm hc hs
/-- x[l:] as an element of Sl -/
def slFrom {α : Type} (E : Enc α) (s : Sl α) (m : Nat) : Sl α := ⟨if s.c = m then s.a else s.a.map (fun q => q.add (m * E.n)), s.c - m, s.xs.drop m⟩
theorem sl_from {α : Type} {E : Enc α} {D : Nat → Prop} {h : Array Obj} {s : Sl α} (H : (slE E).wf D h s) (m : Nat) (hm : m ≤ s.xs.length) : (slE E).wf D h (slFrom E s m) := by
  refine ⟨H.1.drop m hm _ fun hlt => ?_, by have := H.2.1; simp [slFrom]; omega, fun e => ?_⟩
  · have h1 := H.1.adr hlt
    have h2 : ¬ s.c = m := by have := H.2.1; omega
    show (if s.c = m then _ else _) = _
    rw [if_neg h2, h1]
    simp [addr_add, blk, off]
  · show s.c - m = 0
    by_cases hc : s.c = m
    · omega
    · have : (if s.c = m then s.a else s.a.map (fun q => q.add (m * E.n))) = none := e
      rw [if_neg hc] at this
      have h3 : s.a = none := by cases hs : s.a with
        | none => rfl
        | some p => rw [hs] at this; cases this
      have := H.2.2 h3
      omega
theorem x_slfrom {α : Type} (E : Enc α) {x y : Operand} {t e : TypeId} (s : Sl α) {k : IntKind} {i : Int} {z : Value} {by_ : Nat} (ht : P.underlying t = some (.slice e)) (hi : (P.info? e).map (fun i => (i.zero, i.size, i.bytes)) = some (some z, E.n, by_)) (hx : a.eval x = .slice s.a s.xs.length s.c) (hy : a.eval y = .int k i) (m : Nat) (hm : i = (m : Int)) (hn : m ≤ s.xs.length) :
    (execOp a.eval ⟨d, .slice t x (some y) none none, ty, pos, af, g⟩).run P w = .ok (.value (.slice (slFrom E s m).a (slFrom E s m).xs.length (slFrom E s m).c)) w := by
  rw [x_sllo ht hi hx hy m hm hn]
  simp [slFrom]
theorem x_fields {x : Operand} {s : TypeId} {cs : Array Value} {i : Nat} {fs : Array Field} {f : Field} {v : Value} (o : Nat) (hu : P.underlying s = some (.struct fs)) (hf : fs[i]? = some f) (hfo : f.offset = o) (hs : Scalar P f.type) (hx : a.eval x = .agg cs) (hv : cs[o]? = some v) (h : (execOp a.eval ⟨d, .field s x i, ty, pos, af, g⟩).run P w = .ok (.value v) w) : (execOp a.eval ⟨d, .field s x i, ty, pos, af, g⟩).run P w = .ok (.value v) w := h
end
theorem x_bsl0 {P : Program} {a : Act} {w : World} {d : Option Tmp} {ty : TypeId} {pos : String} {af : Array Edge} {g : Option (Nat × Bool)} {t e : TypeId} {z : Value} {sz by_ : Nat} (ht : P.underlying t = some (.slice e)) (hi : (P.info? e).map (fun i => (i.zero, i.size, i.bytes)) = some (some z, sz, by_)) :
    (execOp a.eval ⟨d, .buildSlice t 0 #[], ty, pos, af, g⟩).run P w = .ok (.value (.slice (some ⟨w.heap.size, 0, none⟩) 0 0)) (w.alloc (.cells #[] e)) := by
  obtain ⟨ie, hie, _, _, _⟩ := info_of hi
  simp [execOp, Instr.buildSlice, run_underlying ht, sizeOf, typeInfo, hie, newRow, Instr.fill]
  congr 2; apply Array.eq_empty_of_size_eq_zero; simp
theorem row_of_nil {α : Type} {E : Enc α} {base : Nat} {F : Nat → Prop} {ms : List BS} {w : World} {b : Nat} {e : TypeId} (k : Blk w.heap b [] e) (hb : base ≤ b) : Row E e base F ms w (some ⟨b, 0, none⟩) 0 [] :=
  ⟨⟨by simp, .inr ⟨b, 0, #[], rfl, hb, k, Nat.le_refl _, by simp [maxLen], by simp, by simp⟩⟩, fun x h => by simp at h⟩
theorem abk_one (b : Nat) : abk (some ⟨b, 0, none⟩) = one b := by
  funext k; unfold abk one; simp [eq_comm]
theorem Tr.freshRow {ms : List BS} {w w' : World} {b : Nat} (hM : MS ms w) (hb : w.heap.size = b) (hl : b < w'.heap.size) (g : Ch (In []) w w') : Tr ms w (abk (some ⟨b, 0, none⟩) :: ms) w' := by
  rw [abk_one]; exact Tr.fresh hM hb hl g
/-- the row that a callee gives back -/
theorem Row.up {α : Type} {E : Enc α} {t : TypeId} {base b0 : Nat} {F : Nat → Prop} {ms m0 : List BS} {w : World} {ad : Option Addr} {cap : Nat} {xs : List α} (r : Row E t base (Ex F ms) (abk ad :: m0) w ad cap xs) (hb : b0 ≤ base) : Row E t b0 F (abk ad :: ms) w ad cap xs :=
  ⟨(r.lower hb).own, fun x hx => E.mono (fun k _ h => ⟨fun e => e.elim (fun e => h.1 (.inl e)) fun e => h.2 (.inl e), fun e => h.2 (.inr e)⟩) (r.wf x hx)⟩
section
variable {P : Program} {a : Act} {w : World} {d : Option Tmp} {ty : TypeId} {pos : String} {af : Array Edge} {g : Option (Nat × Bool)} {x y : Operand} {xt yt e : TypeId} {s : Option Addr} {n c n' c' : Nat}
theorem x_sleql (hu : P.underlying xt = some (.slice e)) (hx : a.eval x = .slice s n c) (hy : a.eval y = .slice none n' c') : (execOp a.eval ⟨d, .binOp .eql xt x y yt, ty, pos, af, g⟩).run P w = .ok (.value (.bool (decide (s = none)))) w := by
  refine x_bin hx hy (by simp [eqGuard]) ?_
  rw [Lib.run_eql_slice_nil w xt e s n c n' c' hu]; cases s <;> rfl
theorem x_slneq (hu : P.underlying xt = some (.slice e)) (hx : a.eval x = .slice s n c) (hy : a.eval y = .slice none n' c') : (execOp a.eval ⟨d, .binOp .neq xt x y yt, ty, pos, af, g⟩).run P w = .ok (.value (.bool (decide (¬ s = none)))) w := by
  refine x_bin hx hy (by simp [eqGuard]) ?_
  rw [run_neq_slice_nil_any w xt e s n c n' c' hu]; cases s <;> rfl
end
theorem strip {P : Program} {Q : Exit → Act → World → Prop} {n : Nat} {L : List (Nat × Value)} {a : Act} {w : World} {ops : Array Oper} {rest : List Oper} {dst : Option Tmp} {op : Op} {ty : TypeId} {pos : String} {af : Array Edge} {j gd : Nat} {b : Bool} {p : Oper} (S : Slots n L a) (hj : ops[j]? = some p) (hd : p.dst = some gd) (hv : look gd L = some (.bool b)) (h : wpList P ops Q (⟨dst, op, ty, pos, af, none⟩ :: rest) a w) : wpList P ops Q (⟨dst, op, ty, pos, af, some (j, b)⟩ :: rest) a w := by
  unfold wpList at *
  have hv' := get_bool (S.get gd _ hv)
  rw [if_pos (by simp [Region.wanted, yielded, hj, hd, hv'])]
  rw [if_pos (by simp [Region.wanted])] at h
  exact h
theorem Slots.cast1 {n d : Nat} {v v' : Value} {L : List (Nat × Value)} {a : Act} (S : Slots n ((d, v) :: L) a) (h : v = v') : Slots n ((d, v') :: L) a := h ▸ S
theorem zeroE_cells (n : Nat) (v : Value) : (List.replicate n v).length = n := by simp
/-- make([]T, n), T one cell -/
theorem op_make {α : Type} {E : Enc α} {P : Program} {o : Oper} {a : Act} {K : Act → World → Prop} {Q : Exit → Act → World → Prop} {t e : TypeId} {ms : List BS} {w w0 : World} {F : Nat → Prop} (l c : Operand) (hop : o.op = .makeSlice t l c) (z : Value) (bytes : Nat) (ht : P.underlying t = some (.slice e)) (hi : (P.info? e).map (fun i => (i.zero, i.size, i.bytes)) = some (some z, E.n, bytes)) (hn : E.n = 1) (x0 : α) (h0 : E.cells x0 = [z]) (hz : z.cells = #[z])
    {kl kc : IntKind} {L C : Int} (n : Nat) (hl : a.eval l = .int kl L) (hc : a.eval c = .int kc C) (hL : L = (n : Int)) (hC : C = (n : Int)) (hb : bytes * n ≤ 281474976710656) (hm : n ≤ maxLen) (hM : MS ms w) (hw : ∀ h, E.wf (Fr F (abk (some ⟨w.heap.size, 0, none⟩) :: ms)) h x0) (hF0 : w0.heap.size ≤ w.heap.size)
    (h : ∀ ad w', Row E e w0.heap.size F (abk ad :: ms) w' ad n (List.replicate n x0) → Tr ms w (abk ad :: ms) w' → Ch (In []) w w' → K (a.put o.dst (.slice ad n n)) w') : o.wp P a w K Q := by
  obtain ⟨i0, hi0, hz0, hz1, hz2⟩ := info_of hi
  subst hL hC
  obtain ⟨w', hr, h2, h3⟩ := run_make_full (P := P) w w0.heap.size t e i0 z E.n ht hi0 hz0 hz1 kl kc n (by rw [hz2]; exact hb) hm hF0
  have hch : Ch (In []) w w' := (Ch.of_grown h3).mono fun k hk => by cases hk
  have hcells : (madeCells z.cells (n * E.n)).toList = (List.replicate n x0).flatMap E.cells := by
    have e2 : (List.replicate n x0).flatMap E.cells = List.replicate n z := by
      clear h2 hr hb hm hl hc h
      induction n with
      | zero => rfl
      | succ n ih => rw [List.replicate_succ, List.flatMap_cons, ih, h0]; rfl
    rw [e2]
    simp only [hn, hz, madeCells, Nat.mul_one]
    apply List.ext_getElem
    · simp
    · intro i h1 h2
      simp [Nat.mod_one]
  have hlt : w.heap.size < w'.heap.size := by
    rcases h2.2 with ⟨h1, _⟩ | ⟨g, c, cur, h1, _, h3, _⟩
    · cases h1
    · injection h1 with h1
      have : g = w.heap.size := by injection h1 with h1; injection h1 with h1; exact h1.symm
      subst this
      rcases Nat.lt_or_ge w.heap.size w'.heap.size with k | k
      · exact k
      · rw [Array.getElem?_eq_none k] at h3; cases h3
  have T : Tr ms w (abk (some ⟨w.heap.size, 0, none⟩) :: ms) w' := (Tr.of_ch0 hM hch).cons fun k e => by
    cases e
    exact ⟨Nat.le_refl _, hlt, fun h => absurd (hM.lt _ h) (Nat.lt_irrefl _)⟩
  unfold Oper.wp execOp
  simp only [hop, hl, hc, Sem.run_bind, hr, Result.andThen_ok, Sem.run_pure]
  refine h (some ⟨w.heap.size, 0, none⟩) w' ⟨?_, fun x hx => ?_⟩ T hch
  · rw [List.length_replicate, ← hcells]; exact h2
  · obtain rfl := List.eq_of_mem_replicate hx
    exact hw _
end Go.Proofs.Ytfanmniaolncbaa.V
