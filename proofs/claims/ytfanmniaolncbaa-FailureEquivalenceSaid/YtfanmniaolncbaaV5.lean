/- More operations: bytes of strings, closures, slice expressions, whole structs stored. -/
import Derived.Test.YtfanmniaolncbaaV4
set_option linter.unusedVariables false
set_option linter.unusedSimpArgs false
namespace Go.Proofs.Ytfanmniaolncbaa.V
open Go.RowKit
/-- byte m of a string -/
def bt (s : ByteArray) (m : Nat) : Int := ((s.data.toList.getD m 0).toNat : Int)
theorem bt_bd (s : ByteArray) (m : Nat) : 0 ≤ bt s m ∧ bt s m ≤ 255 := by
  unfold bt
  have := (s.data.toList.getD m 0).toNat_lt
  omega
theorem str_pos {s : ByteArray} (h : ¬ s = ⟨#[]⟩) : 0 < s.size := by
  rcases Nat.eq_zero_or_pos s.size with e | e
  · exact absurd (by cases s with | mk d => congr 1; exact Array.eq_empty_of_size_eq_zero e) h
  · exact e
section
variable {P : Program} {a : Act} {w : World} {d : Option Tmp} {ty : TypeId} {pos : String} {af : Array Edge} {g : Option (Nat × Bool)}
theorem x_sidx {x y : Operand} {t : TypeId} {s : ByteArray} {k : IntKind} {i : Int} (ht : P.underlying t = some .string) (hx : a.eval x = .string s) (hy : a.eval y = .int k i) (m : Nat) (hm : i = (m : Int)) (hlt : m < s.size) :
    (execOp a.eval ⟨d, .index t x y, ty, pos, af, g⟩).run P w = .ok (.value (.int .u8 (bt s m))) w := by
  subst hm
  have h1 : s[m]? = some s[m] := getElem?_pos s m hlt
  have h2 : bt s m = (s[m].toNat : Int) := by
    unfold bt
    have : s.data.toList.getD m 0 = s[m] := by
      rw [List.getD_eq_getElem?_getD, List.getElem?_eq_getElem (by simpa using hlt)]; rfl
    rw [this]
  simp [execOp, Instr.index, run_underlying ht, hx, hy, asIntOf, h1, h2]
theorem x_mkfn {f : FuncId} {caps : Array Operand} {cs : Array Value} (hc : caps.map a.eval = cs) : (execOp a.eval ⟨d, .makeFunc (.func f) #[] caps, ty, pos, af, g⟩).run P w = .ok (.value (.func (.func f) #[] cs)) w := by
  simp [execOp, Instr.makeFunc, hc]
/-- x[:h] -/
theorem x_slhi {x y : Operand} {t e : TypeId} {s : Option Addr} {n c : Nat} {k : IntKind} {i : Int} {z : Value} {sz by_ : Nat} (ht : P.underlying t = some (.slice e)) (hi : (P.info? e).map (fun i => (i.zero, i.size, i.bytes)) = some (some z, sz, by_)) (hx : a.eval x = .slice s n c) (hy : a.eval y = .int k i) (m : Nat) (hm : i = (m : Int)) (hc : m ≤ c) (hs : s = none → c = 0) :
    (execOp a.eval ⟨d, .slice t x none (some y) none, ty, pos, af, g⟩).run P w = .ok (.value (.slice s m c)) w := by
  subst hm
  obtain ⟨ie, hie, _, _, _⟩ := info_of hi
  have h2 : s.map (fun q => q.add 0) = s := by cases s <;> simp [Addr.add]
  simp [execOp, Instr.sliceAt, Instr.slice, Instr.sliceBounds, Instr.sliceBound, run_underlying ht, hx, hy, asIntOf, hc, sizeOf, typeInfo, hie, h2]
/-- x[l:] -/
theorem x_sllo {x y : Operand} {t e : TypeId} {s : Option Addr} {n c : Nat} {k : IntKind} {i : Int} {z : Value} {sz by_ : Nat} (ht : P.underlying t = some (.slice e)) (hi : (P.info? e).map (fun i => (i.zero, i.size, i.bytes)) = some (some z, sz, by_)) (hx : a.eval x = .slice s n c) (hy : a.eval y = .int k i) (m : Nat) (hm : i = (m : Int)) (hn : m ≤ n) :
    (execOp a.eval ⟨d, .slice t x (some y) none none, ty, pos, af, g⟩).run P w = .ok (.value (.slice (if c = m then s else s.map (fun q => q.add (m * sz))) (n - m) (c - m))) w := by
  subst hm
  obtain ⟨ie, hie, _, hz, _⟩ := info_of hi
  simp [execOp, Instr.sliceAt, Instr.slice, Instr.sliceBounds, Instr.sliceBound, run_underlying ht, hx, hy, asIntOf, hn, sizeOf, typeInfo, hie, hz]
theorem x_bsl {t e : TypeId} {len : Nat} {parts : Array (Nat × Operand)} (vs : List (Nat × Value)) (cs : List Value) {z : Value} {sz by_ : Nat} (ht : P.underlying t = some (.slice e)) (hi : (P.info? e).map (fun i => (i.zero, i.size, i.bytes)) = some (some z, sz, by_)) (hsmall : ¬ len * sz > 2 ^ 24) (hpos : ¬ len * sz = 0)
    (hv : parts.toList.map (fun p => (p.1, a.eval p.2)) = vs) (hf : Instr.fill (fun i => some (i * sz, sz)) ((Array.range (len * sz)).map (z.cells[· % z.cells.size]!)) vs = some cs.toArray) :
    (execOp a.eval ⟨d, .buildSlice t len parts, ty, pos, af, g⟩).run P w = .ok (.value (.slice (some ⟨w.heap.size, 0, none⟩) len len)) (w.alloc (.cells cs.toArray e)) := by
  obtain ⟨ie, hie, hz, hs, _⟩ := info_of hi
  subst hs
  exact x_bslice vs cs ie z ht hie hz hsmall hpos hv hf
theorem x_storew {x y : Operand} {t : TypeId} {b : Nat} {cs vs : List Value} {e : TypeId} (hz : (P.info? t).map (·.size) = some vs.length) (hx : a.eval x = .pointer (some ⟨b, 0, none⟩)) (hy : a.eval y = .agg vs.toArray) (h1 : vs.all (·.oneCell') = true) (hb : Blk w.heap b cs e) (hl : cs.length = vs.length) :
    (execOp a.eval ⟨d, .store t x y, ty, pos, af, g⟩).run P w = .ok .skip (w.setRow b vs.toArray) := by
  have := run_storeVar_row (P := P) w b e t cs.toArray vs.toArray hb (by simpa using hz) (by simpa using hl) (by simpa using h1)
  simp [execOp, Instr.storeAt, hx, hy, Instr.sureAddr, this]
end
theorem setRow_ch (w : World) (b : Nat) (vs : Array Value) : Ch (In [one b]) w (w.setRow b vs) :=
  ⟨rfl, rfl, rfl, by simp [World.setRow], fun k _ hk => by
    simp only [World.setRow, Array.getElem?_modify]
    rw [if_neg (fun e => hk (by subst e; exact .inl rfl))]⟩
theorem setRow_blk {w : World} {b : Nat} {cs : List Value} {e : TypeId} (vs : List Value) (h : Blk w.heap b cs e) : Blk (w.setRow b vs.toArray).heap b vs e := by
  unfold Blk at *
  simp [World.setRow, Array.getElem?_modify, h]
section
variable {P : Program} {Q : Exit → Act → World → Prop} {n : Nat} {L : List (Nat × Value)} {a : Act} {w : World} {ops : Array Oper} {rest : List Oper} {o : Oper}
theorem seq_storew (S : Slots n L a) (hg : o.guard = none) (hd : o.dst = none) {b : Nat} {cs vs : List Value} {e : TypeId} (h : (execOp a.eval o).run P w = .ok .skip (w.setRow b vs.toArray)) (hb : Blk w.heap b cs e)
    (next : ∀ a' w', Ch (In [one b]) w w' → w'.heap.size = w.heap.size → Blk w'.heap b vs e → Slots n L a' → wpList P ops Q rest a' w') : wpList P ops Q (o :: rest) a w :=
  seq_skip S hg hd h fun a' S' => next a' _ (setRow_ch w b _) (by simp [World.setRow]) (setRow_blk vs hb) S'
theorem op_callv {d : Option Tmp} {ty : TypeId} {pos : String} {af : Array Edge} {g : Option (Nat × Bool)} {x : Operand} {f : FuncId} {caps : Array Value} {args : Array Operand} {ats : Array TypeId} {vs : Array Value} {R : Ending → World → Prop} {K : Act → World → Prop}
    (hfv : a.eval x = .func (.func f) #[] caps) (hv : args.map a.eval = vs) (hf : Callable P f) (hc : Calls P f (vs ++ caps) w R) (hR : ∀ e w', R e w' → ∃ v, e = .returned v ∧ K (a.put d v) w') :
    Oper.wp P ⟨d, .call ⟨.value x, args, ats⟩, ty, pos, af, g⟩ a w K Q := by
  obtain ⟨fn, h1, h2, h3⟩ := hf
  subst hv
  have hr : (execOp a.eval ⟨d, .call ⟨.value x, args, ats⟩, ty, pos, af, g⟩).run P w = .ok (.enter f (args.map a.eval ++ caps)) w := by
    have h2' : ¬ fn.name = "runtime.NumGoroutine" := by simpa using h2
    have h3' : ¬ fn.body = none := fun e => by simp [e] at h3
    simp [execOp, resolve, hfv, Deferred.ofValue, invoke, callFunc, h1, h2', h3']
  unfold Oper.wp
  rw [hr]
  show Calls P f _ w _
  refine hc.mono fun e w' he => ?_
  obtain ⟨v, rfl, hK⟩ := hR e w' he
  exact hK
theorem seq_callv (S : Slots n L a) {d : Nat} (hdn : d < n) {ty : TypeId} {pos : String} {af : Array Edge} {x : Operand} {f : FuncId} {caps : Array Value} {args : Array Operand} {ats : Array TypeId} {vs : Array Value} {R : Ending → World → Prop}
    (hfv : evS L x = some (.func (.func f) #[] caps)) (hv : args.toList.map (evS L) = vs.toList.map some) (hf : Callable P f) (hc : Calls P f (vs ++ caps) w R) (hR : ∀ e w', R e w' → ∃ v, e = .returned v ∧ ∀ a', Slots n ((d, v) :: L) a' → wpList P ops Q rest a' w') :
    wpList P ops Q (⟨some d, .call ⟨.value x, args, ats⟩, ty, pos, af, none⟩ :: rest) a w :=
  seq_op rfl (op_callv (S.eval hfv) (args_eval S hv) hf hc fun e w' he => let ⟨v, h1, h2⟩ := hR e w' he; ⟨v, h1, h2 _ (S.put hdn)⟩)
end
theorem info_some {P : Program} {e : TypeId} {z : Value} {size bytes : Nat} (hi : (P.info? e).map (fun i => (i.zero, i.size, i.bytes)) = some (some z, size, bytes)) : (P.info? e).isSome = true := by
  cases h : P.info? e with
  | none => simp [h] at hi
  | some i => rfl
/-- a closure that answers whether an element has a property, in this world and every later one -/
def Tests {α : Type} (P : Program) (E : Enc α) (w : World) (f : FuncId) (caps : Array Value) (xs : List α) (p : α → Prop) [DecidablePred p] : Prop :=
  Callable P f ∧ ∀ w', Tr [] w [] w' → ∀ i, i < xs.length → Calls P f (#[.agg (E.cells (xs.getD i E.dflt)).toArray] ++ caps) w' fun e w'' => e = .returned (.bool (decide (p (xs.getD i E.dflt)))) ∧ Tr [] w' [] w''
theorem Tr.framed0 {ms : List BS} {w w' : World} (h : MS ms w) (t : Tr [] w [] w') : Tr ms w ms w' := Tr.framed h t fun _ h => by simp at h
theorem Tr.drew {ms ms' : List BS} {w w' : World} (t : Tr ms w ms' w') : Tr ms w ms' { w' with drawn := w'.drawn + 1 } := ⟨t.ch.drew, t.sub, ⟨t.ms.lt, t.ms.sep⟩⟩
theorem retb {p q : Prop} [Decidable p] [Decidable q] (h : p ↔ q) : Ending.returned (.bool (decide p)) = Ending.returned (.bool (decide q)) := congrArg (fun b => Ending.returned (.bool b)) (decide_eq_decide.2 h)
theorem vb {p q : Prop} [Decidable p] [Decidable q] (h : p ↔ q) : Value.bool (decide p) = Value.bool (decide q) := congrArg Value.bool (decide_eq_decide.2 h)
theorem vt {q : Prop} [Decidable q] (h : q) : Value.bool true = Value.bool (decide q) := congrArg Value.bool (decide_eq_true h).symm
theorem vf {q : Prop} [Decidable q] (h : ¬ q) : Value.bool false = Value.bool (decide q) := congrArg Value.bool (decide_eq_false h).symm
theorem vi {k : IntKind} {x y : Int} (h : x = y) : Value.int k x = Value.int k y := congrArg _ h
theorem vs {x y : ByteArray} (h : x = y) : Value.string x = Value.string y := congrArg _ h
theorem r1 {x y : Value} (h : x = y) : Ending.returned x = Ending.returned y := congrArg _ h
theorem r2 {x y x' y' : Value} (h : x = y) (h' : x' = y') : Ending.returned (.tuple #[x, x']) = Ending.returned (.tuple #[y, y']) := by rw [h, h']
theorem r3 {x y x' y' x2 y2 : Value} (h : x = y) (h' : x' = y') (h2 : x2 = y2) : Ending.returned (.tuple #[x, x', x2]) = Ending.returned (.tuple #[y, y', y2]) := by rw [h, h', h2]
theorem Tr.drop0 {ms ms' : List BS} {w w' : World} (t : Tr ms w ms' w') (h : ms = []) : Tr [] w [] w' := by
  subst h; exact ⟨t.ch, fun _ h => h.elim, MS.nil _⟩
theorem x_nilck {P : Program} {a : Act} {w : World} {d : Option Tmp} {ty : TypeId} {pos : String} {af : Array Edge} {g : Option (Nat × Bool)} {x : Operand} {p : Addr} (hx : a.eval x = .pointer (some p)) : (execOp a.eval ⟨d, .nilCheck x, ty, pos, af, g⟩).run P w = .ok (.value (.pointer (some p))) w := by
  simp [execOp, hx]
theorem subset_cons {m : List BS} {o : BS} : ∀ p, p ∈ m → p ∈ o :: m := fun _ h => List.mem_cons_of_mem _ h
/- out[m] = v -/
section
variable {P : Program} {Q : Exit → Act → World → Prop} {n : Nat} {L : List (Nat × Value)} {a : Act} {w : World} {ops : Array Oper} {rest : List Oper} {o : Oper}
theorem run_store_cell {b f : Nat} {v : Value} {cur : Array Value} {e : TypeId} (h1 : v.oneCell' = true) (hb : w.heap[b]? = some (.cells cur e (0, 0))) (ho : f < cur.size) (m : Mode) :
    (store ⟨b, f, none⟩ v m).run P w = .ok () (w.setCell ⟨b, f, none⟩ v) := by
  rw [run_store P w _ v m h1]
  have hc : w.cell? ⟨b, f, none⟩ = some cur[f] := by
    show hcell w.heap b f = _
    unfold hcell; rw [hb]; simp [ho]
  have hf : w.frozen? ⟨b, f, none⟩ = false := by simp [World.frozen?, hb]
  simp [hc, hf]
theorem seq_rowset {α : Type} {E : Enc α} {et : TypeId} {base : Nat} {F : Nat → Prop} {ms : List BS} {ad : Option Addr} {cap : Nat} {xs : List α} (S : Slots n L a) {x y : Operand} {t ty : TypeId} {pos : String} {af : Array Edge} {ob : Nat} {v : Value} (hz : (P.info? t).map (·.size) = some 1) (hx : a.eval x = .pointer (some ⟨blk ad, ob, none⟩)) (hy : a.eval y = v) (h1 : v.oneCell' = true)
    (r : Row E et base F ms w ad cap xs) (m j : Nat) (hm : m < xs.length) (hj : j < E.n) (x' : α) (hc : E.cells x' = (E.cells (xs.getD m E.dflt)).set j v) (hin : abk ad ∈ ms) (hw : E.wf (Fr F ms) w.heap x') (hob : ob = m * E.n + j)
    (next : ∀ a' w', Ch (In [abk ad]) w w' → w'.heap.size = w.heap.size → Row E et base F ms w' ad cap (xs.set m x') → Slots n L a' → wpList P ops Q rest a' w') : wpList P ops Q (⟨none, .store t x y, ty, pos, af, none⟩ :: rest) a w := by
  obtain ⟨h2, h3, cur, h4, h5⟩ := row_set r m j hm hj x' v hc hin hw hob
  refine seq_skip S rfl rfl ?_ fun a' S' => next a' _ h3 (by simp [World.setCell]) h2 S'
  have hcs : v.cells = #[v] := by cases v <;> simp [Value.oneCell'] at h1 <;> rfl
  cases hi : P.info? t with
  | none => simp [hi] at hz
  | some ie =>
    have h6 : ie.size = 1 := by simpa [hi] using hz
    simp [execOp, Instr.storeAt, hx, hy, Instr.sureAddr, storeVar, hcs, sizeOf, typeInfo, hi, h6, storeCells, addr_add, run_store_cell h1 h4 h5]
end
theorem row_off {α : Type} {E : Enc α} {et : TypeId} {base : Nat} {F : Nat → Prop} {ms : List BS} {w : World} {ad : Option Addr} {cap : Nat} {xs : List α} (r : Row E et base F ms w ad cap xs) {m : Nat} (hm : m < xs.length) : ad = some ⟨blk ad, 0, none⟩ := by
  rcases r.form with ⟨_, h, _⟩ | ⟨h, _⟩
  · rw [h] at hm; simp at hm
  · exact h
end Go.Proofs.Ytfanmniaolncbaa.V
