/- Steps that make or write memory; how data of the program lie in cells. -/
import Derived.Test.YtfanmniaolncbaaV3
set_option linter.unusedVariables false
set_option linter.unusedSimpArgs false
namespace Go.Proofs.Ytfanmniaolncbaa.V
open Go.RowKit
section
variable {P : Program} {Q : Exit → Act → World → Prop} {n : Nat} {L : List (Nat × Value)} {a : Act} {w : World} {ops : Array Oper} {rest : List Oper} {o : Oper}
theorem ch_alloc (w : World) (o : Obj) : Ch (In []) w (w.alloc o) := (Ch.alloc w o).mono fun _ h => h.elim
theorem ch_set (w : World) (b o : Nat) (u : Value) : Ch (In [one b]) w (w.setCell ⟨b, o, none⟩ u) := (Ch.set w b o u).mono fun k h => .inl h
theorem seq_new (S : Slots n L a) (hg : o.guard = none) {d : Nat} (hd : o.dst = some d) (hdn : d < n) (mkv : Nat → Value) {cs : List Value} {e : TypeId} (h : (execOp a.eval o).run P w = .ok (.value (mkv w.heap.size)) (w.alloc (.cells cs.toArray e)))
    (next : ∀ a' w' b, w.heap.size = b → w'.heap.size = b + 1 → Ch (In []) w w' → Blk w'.heap b cs e → Slots n ((d, mkv b) :: L) a' → wpList P ops Q rest a' w') : wpList P ops Q (o :: rest) a w :=
  seq_val S hg hd hdn h fun a' S' => next a' _ _ rfl (by simp) (ch_alloc w _) (Blk.new w cs e) S'
theorem seq_store (S : Slots n L a) (hg : o.guard = none) (hd : o.dst = none) {b f : Nat} {v : Value} {cs : List Value} (cs' : List Value) {e : TypeId} (h : (execOp a.eval o).run P w = .ok .skip (w.setCell ⟨b, f, none⟩ v)) (hb : Blk w.heap b cs e) (hcs : cs.set f v = cs')
    (next : ∀ a' w', Ch (In [one b]) w w' → w'.heap.size = w.heap.size → Blk w'.heap b cs' e → Slots n L a' → wpList P ops Q rest a' w') : wpList P ops Q (o :: rest) a w :=
  seq_skip S hg hd h fun a' S' => next a' _ (ch_set w b f v) (by simp [World.setCell]) (hcs ▸ hb.set v) S'
theorem seq_store0 (S : Slots n L a) (hg : o.guard = none) (hd : o.dst = none) {b f : Nat} {v : Value} (h : (execOp a.eval o).run P w = .ok .skip (w.setCell ⟨b, f, none⟩ v))
    (next : ∀ a' w', w' = w.setCell ⟨b, f, none⟩ v → Ch (In [one b]) w w' → w'.heap.size = w.heap.size → Slots n L a' → wpList P ops Q rest a' w') : wpList P ops Q (o :: rest) a w :=
  seq_skip S hg hd h fun a' S' => next a' _ rfl (ch_set w b f v) (by simp [World.setCell]) S'
/-- what a new block will be: written further, or only read -/
theorem Tr.fresh {ms : List BS} {w w' : World} {b : Nat} (hM : MS ms w) (hb : w.heap.size = b) (hl : b < w'.heap.size) (g : Ch (In []) w w') : Tr ms w (one b :: ms) w' :=
  (Tr.of_ch0 hM g).cons fun k e => by
    cases e
    exact ⟨by omega, hl, fun h => by have := hM.lt _ h; omega⟩
theorem fr_fresh {F : Nat → Prop} {m0 ms : List BS} {w0 w : World} {b : Nat} (C : Tr m0 w0 ms w) (hF : Old F w0) (hb : w.heap.size = b) : Fr F ms b := ⟨fun h => by have := C.ms.lt _ h; omega, fun h => by have := hF _ h; have := C.size; omega⟩
theorem sl_of_blk {α : Type} {E : Enc α} {D : Nat → Prop} {h : Array Obj} {b : Nat} {cs : List Value} {e : TypeId} (k : Blk h b cs e) (xs : List α) (n : Nat) (hn : xs.length = n) (hm : n ≤ maxLen) (h0 : 0 < n) (hcs : xs.flatMap E.cells = cs) (hD : D b) (hw : ∀ x ∈ xs, E.wf D h x) : (slE E).wf D h ⟨some ⟨b, 0, none⟩, n, xs⟩ := by
  subst hn
  refine ⟨⟨hm, fun _ => ⟨rfl, hD, k.lt⟩, fun i hi j v hv => ?_, fun i hi => ?_⟩, Nat.le_refl _, fun e => by cases e⟩
  · have h8 := flat_get E.len xs i hi j v hv
    rw [hcs] at h8
    show hcell h b (0 + i * E.n + j) = some v
    rw [Nat.zero_add]
    exact k.cell h8
  · rw [List.getD_eq_getElem?_getD, List.getElem?_eq_getElem hi]; exact hw _ (List.getElem_mem hi)
theorem row_of_blk {α : Type} {E : Enc α} {base : Nat} {F : Nat → Prop} {ms : List BS} {w : World} {b : Nat} {cs : List Value} {e : TypeId} (k : Blk w.heap b cs e) (xs : List α) (n : Nat) (hn : xs.length = n) (hm : n ≤ maxLen) (h0 : 0 < n) (hcs : xs.flatMap E.cells = cs) (hb : base ≤ b) (hw : ∀ x ∈ xs, E.wf (Fr F ms) w.heap x) : Row E e base F ms w (some ⟨b, 0, none⟩) n xs := by
  subst hn
  refine ⟨⟨flat_len E.len xs, .inr ⟨b, xs.length, cs.toArray, rfl, hb, k, Nat.le_refl _, hm, ?_, ?_⟩⟩, hw⟩
  · rw [← hcs, List.size_toArray, flat_len E.len]
  · rw [← flat_len E.len xs, hcs, List.take_length]
end
section
variable {P : Program} {ops : Array Oper} {Q : Exit → Act → World → Prop} {i : Nat} {o : Oper} {a : Act} {w : World} {K : Act → World → Prop}
theorem head_yes {j gd : Nat} {b : Bool} {p : Oper} (ho : ops[i]? = some o) (hg : o.guard = some (j, b)) (hj : ops[j]? = some p) (hd : p.dst = some gd) (hs : gd < a.tmps.size) {gv : Value} (hv : a.tmps.getD gd undef = gv) (hw : gv = .bool b) (h : o.wp P a w K Q) : wpOp P ops Q i K a w := by
  unfold wpOp
  rw [ho]
  simp only [(want_iff hg hj hd hs hv).2 hw, if_true]
  exact .inl h
theorem head_no {j gd : Nat} {b : Bool} {p : Oper} (ho : ops[i]? = some o) (hg : o.guard = some (j, b)) (hj : ops[j]? = some p) (hd : p.dst = some gd) (hs : gd < a.tmps.size) {gv : Value} (hv : a.tmps.getD gd undef = gv) (hw : ¬ gv = .bool b) (h : K (a.put o.dst undef) w) : wpOp P ops Q i K a w := by
  unfold wpOp
  rw [ho]
  have : ¬ Region.wanted o (yielded ops a.tmps) = true := fun e => hw ((want_iff hg hj hd hs hv).1 e)
  simp only [this]
  exact h
end
theorem Blk.mid {h : Array Obj} {b : Nat} {all : List Value} {e : TypeId} (k : Blk h b all e) (pre cs post : List Value) (ha : all = pre ++ (cs ++ post)) (f : Nat) (hf : pre.length = f) : ∀ j v, cs[j]? = some v → hcell h b (f + j) = some v := by
  subst ha hf
  intro j v hv
  refine k.cell ?_
  rw [List.getElem?_append_right (by omega), Nat.add_sub_cancel_left, List.getElem?_append_left (List.getElem?_eq_some_iff.1 hv).1]
  exact hv
def intE : Enc Int := ⟨1, fun x => [.int .i64 x], 0, fun _ _ x => inI64 x, fun _ => rfl, fun _ u hu => by simp at hu; subst hu; rfl, fun _ h => h, fun _ h => h⟩
def u32E : Enc Int := ⟨1, fun x => [.int .u32 x], 0, fun _ _ x => inU32 x, fun _ => rfl, fun _ u hu => by simp at hu; subst hu; rfl, fun _ h => h, fun _ h => h⟩
def u8E : Enc Int := ⟨1, fun x => [.int .u8 x], 0, fun _ _ x => inU8 x, fun _ => rfl, fun _ u hu => by simp at hu; subst hu; rfl, fun _ h => h, fun _ h => h⟩
def boolE : Enc Bool := ⟨1, fun x => [.bool (decide (x = true))], false, fun _ _ _ => True, fun _ => rfl, fun _ u hu => by simp at hu; subst hu; rfl, fun _ h => h, fun _ h => h⟩
def strE : Enc ByteArray := ⟨1, fun x => [.string x], ⟨#[]⟩, fun _ _ x => inStr x, fun _ => rfl, fun _ u hu => by simp at hu; subst hu; rfl, fun _ h => h, fun _ h => h⟩
/-- the tape of choices: its list never changes, its index does -/
def TpB (e : TypeId) (T : Nat) (tl : Sl Int) (w : World) : Prop := ∃ i : Nat, i ≤ tl.xs.length ∧ Blk w.heap T [.slice tl.a tl.xs.length tl.c, .int .i64 i] e
theorem TpB.tr {e : TypeId} {T : Nat} {tl : Sl Int} {w w' : World} {chg : List BS} (t : TpB e T tl w) (g : Ch (In chg) w w') (h : ¬ In chg T) : TpB e T tl w' := let ⟨i, hi, k⟩ := t; ⟨i, hi, k.tr g h⟩
theorem TpB.tr0 {e : TypeId} {T : Nat} {tl : Sl Int} {w w' : World} (t : TpB e T tl w) (g : Ch (In []) w w') : TpB e T tl w' := t.tr g fun h => h
end Go.Proofs.Ytfanmniaolncbaa.V
