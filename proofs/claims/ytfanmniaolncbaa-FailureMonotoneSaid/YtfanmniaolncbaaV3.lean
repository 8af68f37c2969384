/- Guarded operations (&&, ||) without a split; rows of the call's own, append. -/
import Derived.Test.YtfanmniaolncbaaV2
set_option linter.unusedVariables false
set_option linter.unusedSimpArgs false
namespace Go.Proofs.Ytfanmniaolncbaa.V
open Go.RowKit
section
variable {q g : Prop} [Decidable q] [Decidable g]
theorem gt : q ↔ Value.bool (decide q) = .bool true := by simp
theorem gf : ¬ q ↔ Value.bool (decide q) = .bool false := by simp
theorem ggt : (g ∧ q) ↔ (if g then Value.bool (decide q) else undef) = .bool true := by
  by_cases h : g <;> simp [h, undef]
theorem ggf : (g ∧ ¬ q) ↔ (if g then Value.bool (decide q) else undef) = .bool false := by
  by_cases h : g <;> simp [h, undef]
end
section
variable {P : Program} {Q : Exit → Act → World → Prop} {n : Nat} {L : List (Nat × Value)} {a : Act} {w : World} {ops : Array Oper} {rest : List Oper} {o : Oper}
theorem want_iff {j gd : Nat} {b : Bool} {p : Oper} {gv : Value} (hg : o.guard = some (j, b)) (hj : ops[j]? = some p) (hd : p.dst = some gd) (hs : gd < a.tmps.size) (hv : a.tmps.getD gd undef = gv) : Region.wanted o (yielded ops a.tmps) = true ↔ gv = .bool b := by
  have h1 : a.tmps[gd]? = some gv := by rw [Array.getD_eq_getD_getElem?] at hv; rw [Array.getElem?_eq_getElem hs] at hv ⊢; exact congrArg some hv
  simp only [Region.wanted, hg, yielded, hj, hd, Option.bind_some, h1]
  cases gv <;> simp
theorem seq_gd (S : Slots n L a) {j gd : Nat} {b : Bool} {p : Oper} {gv : Value} (hg : o.guard = some (j, b)) (hj : ops[j]? = some p) (hd : p.dst = some gd) (hgn : gd < n) (hv : look gd L = some gv) {c : Prop} [Decidable c] (hc : c ↔ gv = .bool b)
    {e : Nat} (he : o.dst = some e) (hen : e < n) {v : Value} (h : c → (execOp a.eval o).run P w = .ok (.value v) w) (next : ∀ a', Slots n ((e, if c then v else undef) :: L) a' → wpList P ops Q rest a' w) : wpList P ops Q (o :: rest) a w := by
  unfold wpList
  have hw := (want_iff (a := a) (o := o) hg hj hd (by rw [S.size]; exact hgn) (S.get gd _ hv)).trans hc.symm
  by_cases hcc : c
  · rw [if_pos (hw.2 hcc)]
    refine .inl (op_val (h hcc) ?_)
    rw [he]
    have := next _ (S.put (v := v) hen |> fun S' => by rw [if_pos hcc]; exact S')
    exact this
  · rw [if_neg (fun e => hcc (hw.1 e)), he]
    exact next _ (by rw [if_neg hcc]; exact S.put hen)
theorem seq_gcall (S : Slots n L a) {j gd : Nat} {b : Bool} {p : Oper} {gv : Value} {d : Nat} (hdn : d < n) {ty : TypeId} {pos : String} {af : Array Edge} {f : FuncId} {args : Array Operand} {ats : Array TypeId} {vs : Array Value} {v : Value}
    (hj : ops[j]? = some p) (hd : p.dst = some gd) (hgn : gd < n) (hv : look gd L = some gv) {c : Prop} [Decidable c] (hc : c ↔ gv = .bool b)
    (ha : c → args.map a.eval = vs) (hf : Callable P f) (hcall : c → Calls P f vs w fun e w' => e = .returned v ∧ Ch (In []) w w')
    (next : ∀ a' w', Ch (In []) w w' → Slots n ((d, if c then v else undef) :: L) a' → wpList P ops Q rest a' w') :
    wpList P ops Q (⟨some d, .call ⟨.value (.func f), args, ats⟩, ty, pos, af, some (j, b)⟩ :: rest) a w := by
  unfold wpList
  have hw := (want_iff (a := a) (o := ⟨some d, .call ⟨.value (.func f), args, ats⟩, ty, pos, af, some (j, b)⟩) rfl hj hd (by rw [S.size]; exact hgn) (S.get gd _ hv)).trans hc.symm
  by_cases hcc : c
  · rw [if_pos (hw.2 hcc)]
    refine .inl (op_call (ha hcc) hf (hcall hcc) fun e w' ⟨h1, h2⟩ => ⟨v, h1, ?_⟩)
    exact next _ w' h2 (by rw [if_pos hcc]; exact S.put hdn)
  · rw [if_neg (fun e => hcc (hw.1 e))]
    exact next _ w (Ch.refl _) (by rw [if_neg hcc]; exact S.put hdn)
end
section
variable {P : Program} {a : Act} {w : World} {d : Option Tmp} {ty : TypeId} {pos : String} {af : Array Edge} {g : Option (Nat × Bool)}
theorem x_and {c x y : Operand} {p q : Prop} [Decidable p] [Decidable q] (hc : a.eval c = .bool (decide p)) (hx : p → a.eval x = .bool (decide q)) (hy : a.eval y = .bool false) : (execOp a.eval ⟨d, .pick c x y, ty, pos, af, g⟩).run P w = .ok (.value (.bool (decide (p ∧ q)))) w := by
  by_cases h : p
  · have := hx h; simp [execOp, hc, this, h, asBool]
  · simp [execOp, hc, hy, h, asBool]
theorem x_or {c x y : Operand} {p q : Prop} [Decidable p] [Decidable q] (hc : a.eval c = .bool (decide p)) (hx : a.eval x = .bool true) (hy : ¬ p → a.eval y = .bool (decide q)) : (execOp a.eval ⟨d, .pick c x y, ty, pos, af, g⟩).run P w = .ok (.value (.bool (decide (p ∨ q)))) w := by
  by_cases h : p
  · simp [execOp, hc, hx, h, asBool]
  · have := hy h; simp [execOp, hc, this, h, asBool]
end
theorem info_of {P : Program} {e : TypeId} {z : Value} {size bytes : Nat} (hi : (P.info? e).map (fun i => (i.zero, i.size, i.bytes)) = some (some z, size, bytes)) : ∃ i, P.info? e = some i ∧ i.zero = some z ∧ i.size = size ∧ i.bytes = bytes := by
  cases h : P.info? e with
  | none => simp [h] at hi
  | some i => simp [h] at hi; exact ⟨i, rfl, hi.1, hi.2.1, hi.2.2⟩
/-- a slice of the call's own: nil, or the head of a block from base on; it may grow, its elements may be set -/
structure Row {α : Type} (E : Enc α) (t : TypeId) (base : Nat) (F : Nat → Prop) (ms : List BS) (w : World) (ad : Option Addr) (cap : Nat) (xs : List α) : Prop where
  own : w.ownsRow base t E.n (.slice ad xs.length cap) xs.length (xs.flatMap E.cells)
  wf : ∀ x ∈ xs, E.wf (Fr F ms) w.heap x
section
variable {α : Type} {E : Enc α} {t : TypeId} {base : Nat} {F : Nat → Prop} {ms ms' : List BS} {w w' w0 : World} {ad : Option Addr} {cap : Nat} {xs : List α}
theorem Row.nil (E : Enc α) (t : TypeId) (base : Nat) (F : Nat → Prop) (ms : List BS) (w : World) : Row E t base F ms w none 0 [] := ⟨⟨by simp, .inl ⟨rfl, rfl⟩⟩, fun x h => by simp at h⟩
theorem Row.form (r : Row E t base F ms w ad cap xs) : ad = none ∧ xs = [] ∧ cap = 0 ∨ ad = some ⟨blk ad, 0, none⟩ ∧ base ≤ blk ad ∧ blk ad < w.heap.size ∧ xs.length ≤ cap := by
  rcases r.own.2 with ⟨h1, h2⟩ | ⟨g, c, cur, h1, h2, h3, h4, _⟩
  · left
    injection h1 with h1 _ h3
    exact ⟨h1, List.length_eq_zero_iff.1 h2, h3⟩
  · right
    injection h1 with h1 _ h5
    subst h1 h5
    have h6 : g < w.heap.size := by
      rcases Nat.lt_or_ge g w.heap.size with k | k
      · exact k
      · rw [Array.getElem?_eq_none k] at h3; cases h3
    exact ⟨rfl, h2, h6, h4⟩
theorem Row.cap_le (r : Row E t base F ms w ad cap xs) : xs.length ≤ cap ∧ (ad = none → cap = 0) := by
  rcases r.form with ⟨h1, h2, h3⟩ | ⟨h1, _, _, h4⟩
  · subst h2 h3; exact ⟨Nat.le_refl _, fun _ => rfl⟩
  · exact ⟨h4, fun e => by rw [e] at h1; cases h1⟩
theorem Row.len_le (r : Row E t base F ms w ad cap xs) : xs.length ≤ maxLen := by
  rcases r.own.2 with ⟨_, h2⟩ | ⟨g, c, cur, h1, h2, h3, h4, h5, _⟩
  · rw [h2]; exact Nat.zero_le _
  · omega
theorem abk_some {ad : Option Addr} {k : Nat} (h : abk ad k) : ad ≠ none ∧ blk ad = k := by
  cases ad with
  | none => cases h
  | some p => exact ⟨by simp, Option.some.inj h⟩
theorem abk_of {ad : Option Addr} (h : ad ≠ none) : abk ad (blk ad) := by
  cases ad with
  | none => exact absurd rfl h
  | some p => rfl
theorem abk_none {k : Nat} : ¬ abk none k := fun h => by cases h
theorem abk_ext {ad ad' : Option Addr} (h : ad.map (·.block) = ad'.map (·.block)) : abk ad = abk ad' := by unfold abk; rw [h]
theorem In.nil {k : Nat} : ¬ In [] k := id
theorem In.one {o : BS} {k : Nat} : In [o] k ↔ o k := ⟨fun h => h.elim id False.elim, .inl⟩
theorem Row.new (r : Row E t base F ms w ad cap xs) : ∀ k, abk ad k → base ≤ k ∧ k < w.heap.size := fun k hk => by
  obtain ⟨h1, h2⟩ := abk_some hk
  rcases r.form with ⟨h, _⟩ | ⟨_, h3, h4, _⟩
  · exact absurd h h1
  · rw [← h2]; exact ⟨h3, h4⟩
theorem Row.tr (r : Row E t base F ms w ad cap xs) (T : Tr ms w ms' w') {chg : List BS} (g : Ch (In chg) w w') (hn : ∀ k, abk ad k → ¬ In chg k) : Row E t base F ms' w' ad cap xs := by
  refine ⟨⟨r.own.1, ?_⟩, fun x hx => E.tr (r.wf x hx) T⟩
  rcases r.own.2 with h1 | ⟨b, c, cur, h1, h2, h3, h4⟩
  · exact .inl h1
  · refine .inr ⟨b, c, cur, h1, h2, ?_, h4⟩
    injection h1 with h1
    subst h1
    refine (g.block b ?_ (hn b rfl)).trans h3
    rcases Nat.lt_or_ge b w.heap.size with k | k
    · exact k
    · rw [Array.getElem?_eq_none k] at h3; cases h3
theorem Row.tr0 (r : Row E t base F ms w ad cap xs) (T : Tr ms w ms' w') (g : Ch (In []) w w') : Row E t base F ms' w' ad cap xs := r.tr T g fun _ _ h => h
theorem Blk.tr0 {b : Nat} {cs : List Value} {e : TypeId} (k : Blk w.heap b cs e) (g : Ch (In []) w w') : Blk w'.heap b cs e := k.tr g fun h => h
theorem Row.lower (r : Row E t base F ms w ad cap xs) {b : Nat} (hb : b ≤ base) : Row E t b F ms w ad cap xs :=
  ⟨⟨r.own.1, r.own.2.imp id fun ⟨g, c, cur, h1, h2, h3⟩ => ⟨g, c, cur, h1, Nat.le_trans hb h2, h3⟩⟩, r.wf⟩
theorem Row.raise (r : Row E t base F ms w ad cap xs) {b : Nat} (hb : ∀ k, abk ad k → b ≤ k) : Row E t b F ms w ad cap xs :=
  ⟨⟨r.own.1, r.own.2.imp id fun ⟨g, c, cur, h1, h2, h3⟩ => ⟨g, c, cur, h1, hb g (by injection h1 with h1; rw [h1]; rfl), h3⟩⟩, r.wf⟩
theorem flat_get (hE : ∀ x, (E.cells x).length = E.n) : ∀ (xs : List α) (i : Nat), i < xs.length → ∀ j v, (E.cells (xs.getD i E.dflt))[j]? = some v → (xs.flatMap E.cells)[i * E.n + j]? = some v
  | [], i, h, _, _, _ => by simp at h
  | x :: xs, 0, _, j, v, hv => by
    rw [List.flatMap_cons, Nat.zero_mul, Nat.zero_add]
    have hv' : (E.cells x)[j]? = some v := by simpa using hv
    have := (List.getElem?_eq_some_iff.1 hv').1
    rw [List.getElem?_append_left this]; exact hv'
  | x :: xs, i + 1, h, j, v, hv => by
    rw [List.flatMap_cons, List.getElem?_append_right (by rw [hE, Nat.add_mul]; omega), hE, show (i + 1) * E.n + j - E.n = i * E.n + j from by rw [Nat.add_mul]; omega]
    exact flat_get hE xs i (by simpa using h) j v (by simpa using hv)
theorem flat_len (hE : ∀ x, (E.cells x).length = E.n) : ∀ (xs : List α), (xs.flatMap E.cells).length = xs.length * E.n
  | [] => by simp
  | x :: xs => by rw [List.flatMap_cons, List.length_append, hE, flat_len hE xs, List.length_cons, Nat.add_mul]; omega
theorem flat_set (hE : ∀ x, (E.cells x).length = E.n) (x' : α) (j : Nat) (v : Value) (hj : j < E.n) : ∀ (xs : List α) (m : Nat), m < xs.length → E.cells x' = (E.cells (xs.getD m E.dflt)).set j v → (xs.set m x').flatMap E.cells = (xs.flatMap E.cells).set (m * E.n + j) v
  | [], m, h, _ => by simp at h
  | x :: xs, 0, _, h => by
    have h' : E.cells x' = (E.cells x).set j v := by simpa using h
    rw [List.set_cons_zero, List.flatMap_cons, List.flatMap_cons, h', Nat.zero_mul, Nat.zero_add, List.set_append_left _ _ (by rw [hE]; exact hj)]
  | x :: xs, m + 1, hm, h => by
    rw [List.set_cons_succ, List.flatMap_cons, List.flatMap_cons, flat_set hE x' j v hj xs m (by simpa using hm) (by simpa using h), List.set_append_right _ _ (by rw [hE, Nat.add_mul]; omega), hE, show (m + 1) * E.n + j - E.n = m * E.n + j from by rw [Nat.add_mul]; omega]
theorem Row.wfi (r : Row E t base F ms w ad cap xs) (m : Nat) (hm : m < xs.length) : E.wf (Fr F ms) w.heap (xs.getD m E.dflt) := by
  rw [List.getD_eq_getElem?_getD, List.getElem?_eq_getElem hm]; exact r.wf _ (List.getElem_mem hm)
/-- a row read as a slice; D: blocks that the elements point to, and the row's own -/
theorem Row.latD {D : Nat → Prop} (r : Row E t base F ms w ad cap xs) (hn : 0 < E.n) (hD : ∀ k, abk ad k → D k) (hw : ∀ x ∈ xs, E.wf D w.heap x) : LAt E D w.heap ad xs := by
  have hwf : ∀ i, i < xs.length → E.wf D w.heap (xs.getD i E.dflt) := fun i hi => by
    rw [List.getD_eq_getElem?_getD, List.getElem?_eq_getElem hi]; exact hw _ (List.getElem_mem hi)
  rcases r.own.2 with ⟨h1, h2⟩ | ⟨g, c, cur, h1, h2, h3, h4, h5, h6, h7⟩
  · have := List.length_eq_zero_iff.1 h2
    subst this
    exact LAt.nil
  · injection h1 with h1
    subst h1
    refine ⟨by omega, fun _ => ⟨rfl, hD _ rfl, ?_⟩, fun i hi j v hv => ?_, hwf⟩
    · show g < w.heap.size
      rcases Nat.lt_or_ge g w.heap.size with k | k
      · exact k
      · rw [Array.getElem?_eq_none k] at h3; cases h3
    · have h8 := flat_get E.len xs i hi j v hv
      rw [← h7] at h8
      show hcell w.heap g (0 + i * E.n + j) = some v
      unfold hcell
      rw [h3, Nat.zero_add]
      show cur[i * E.n + j]? = some v
      rw [← Array.getElem?_toList]
      have := List.getElem?_eq_some_iff.1 h8
      obtain ⟨hlt, _⟩ := this
      rw [List.length_take] at hlt
      rw [List.getElem?_take_of_lt (by omega)] at h8
      exact h8
def Any : Nat → Prop := fun _ => True
theorem Row.lat (r : Row E t base F ms w ad cap xs) (hn : 0 < E.n) : LAt E Any w.heap ad xs := r.latD hn (fun _ _ => trivial) fun x hx => E.mono (fun _ _ _ => trivial) (r.wf x hx)
theorem Row.latz (r : Row E t base F ms w ad cap xs) (hn : 0 < E.n) : LAt E Any w.heap (some ⟨blk ad, 0, none⟩) xs := by
  rcases r.form with ⟨_, h, _⟩ | ⟨h, _⟩
  · subst h; exact LAt.nil
  · have := r.lat hn
    rw [h] at this
    exact this
/-- as an argument of what writes m0 only -/
theorem Row.arg {m0 : List BS} (r : Row E t base F ms w ad cap xs) (hn : 0 < E.n) (hs : ∀ o, o ∈ m0 → o ∈ ms) (ha : ∀ k, abk ad k → ¬ In m0 k ∧ ¬ F k) : (slE E).wf (Fr F m0) w.heap ⟨ad, cap, xs⟩ :=
  ⟨r.latD hn ha fun x hx => E.less (r.wf x hx) hs, r.cap_le⟩
/-- the row's own block is none of F -/
theorem Row.notF (r : Row E t base F ms w ad cap xs) (hF : Old F w0) (hb : w0.heap.size ≤ base) : ∀ k, abk ad k → ¬ F k := fun k e h => by
  have h1 := (r.new k e).1
  have h2 := hF k h
  omega
/-- as an argument of a callee, which must leave out what the caller may write, but for the blocks of os -/
def Exc (F : Nat → Prop) (ms os : List BS) : Nat → Prop := fun k => (In ms k ∧ ¬ In os k) ∨ F k
theorem Row.argx {os m0 : List BS} (r : Row E t base F ms w ad cap xs) (hn : 0 < E.n) (hF : ∀ k, abk ad k → ¬ F k) (ho : ∀ k, abk ad k → In os k ∧ ¬ In m0 k) (hs : ∀ o, o ∈ m0 → o ∈ ms) : (slE E).wf (Fr (Exc F ms os) m0) w.heap ⟨ad, cap, xs⟩ :=
  ⟨r.latD hn (fun k e => ⟨(ho k e).2, fun h => h.elim (fun h => h.2 (ho k e).1) (hF k e)⟩) fun x hx => E.mono (fun k _ h => ⟨fun e => h.1 (in_sub hs e), fun e => e.elim (fun e => h.1 e.1) h.2⟩) (r.wf x hx), r.cap_le⟩
theorem Enc.downx {os : List BS} (E : Enc α) {x : α} (H : E.wf (Fr F ms) w.heap x) (hs : ∀ o, o ∈ ms' → o ∈ ms) : E.wf (Fr (Exc F ms os) ms') w.heap x := E.mono (fun k _ h => ⟨fun hm => h.1 (in_sub hs hm), fun e => e.elim (fun e => h.1 e.1) h.2⟩) H
theorem Tr.oldx {os ms'' : List BS} (t : Tr ms'' w0 ms w) (h : Old F w0) : Old (Exc F ms os) w := fun k e => e.elim (fun e => t.ms.lt k e.1) fun e => Nat.lt_of_lt_of_le (h k e) t.size
/-- no longer written: read from now on -/
theorem Sep.mid {pre post : List BS} {o : BS} {k : Nat} (hk : o k) : ∀ {pre : List BS}, Sep (pre ++ o :: post) → ¬ In (pre ++ post) k
  | [], s => s.1 k hk
  | _ :: _, s => fun h => h.elim (fun e => s.1 k e (in_app.2 (.inr (.inl hk)))) (Sep.mid (pre := pre) hk s.2)
theorem Row.freeze {pre post : List BS} (hms : ms = pre ++ abk ad :: post) (hM : MS ms w) (r : Row E t base F ms w ad cap xs) (hn : 0 < E.n) (hF : ∀ k, abk ad k → ¬ F k) : (slE E).wf (Fr F (pre ++ post)) w.heap ⟨ad, cap, xs⟩ := by
  subst hms
  refine r.arg hn (fun o ho => ?_) fun k hk => ⟨Sep.mid (pre := []) hk hM.sep, hF k hk⟩
  rcases List.mem_append.1 ho with h | h
  · exact List.mem_append_left _ h
  · exact List.mem_append_right _ (List.mem_cons_of_mem _ h)
/-- an entry leaves the set -/
theorem Tr.leave {pre post : List BS} {o : BS} (hM : MS (pre ++ o :: post) w) : Tr (pre ++ o :: post) w (pre ++ post) w := by
  have hin : ∀ k, In (pre ++ post) k → In (pre ++ o :: post) k := fun k hp => by
    rcases in_app.1 hp with h | h
    · exact in_app.2 (.inl h)
    · exact in_app.2 (.inr (.inr h))
  refine ⟨Ch.refl w, fun k hk => .inl (hin _ hk), fun k hk => hM.lt k (hin _ hk), ?_⟩
  have : ∀ (pre : List BS), Sep (pre ++ o :: post) → Sep (pre ++ post) := by
    intro pre
    induction pre with
    | nil => intro s; exact s.2
    | cons p r ih =>
      intro s
      refine ⟨fun k hk hm => s.1 k hk ?_, ih s.2⟩
      rcases in_app.1 hm with h | h
      · exact in_app.2 (.inl h)
      · exact in_app.2 (.inr (.inr h))
  exact this pre hM.sep
theorem Row.wf_mono (r : Row E t base F ms w ad cap xs) (hs : ∀ o, o ∈ ms' → o ∈ ms) : Row E t base F ms' w ad cap xs := ⟨r.own, fun x hx => E.less (r.wf x hx) hs⟩
/-- one entry is replaced by another one: blocks of the old one, or new blocks -/
theorem Tr.swap {pre post : List BS} {o o' : BS} (hM : MS (pre ++ o :: post) w) (g : Ch (In [o]) w w') (ho : ∀ k, o' k → o k ∨ w.heap.size ≤ k ∧ k < w'.heap.size) : Tr (pre ++ o :: post) w (pre ++ o' :: post) w' := by
  have hin : ∀ k, In (pre ++ o' :: post) k → In (pre ++ o :: post) k ∨ w.heap.size ≤ k ∧ k < w'.heap.size := fun k hp => by
    rcases in_app.1 hp with h | h | h
    · exact .inl (in_app.2 (.inl h))
    · exact (ho k h).imp (fun h => in_app.2 (.inr (.inl h))) id
    · exact .inl (in_app.2 (.inr (.inr h)))
  refine ⟨g.mono fun k hk => in_app.2 (.inr (.inl (In.one.1 hk))), fun k hk => (hin k hk).imp id And.left, fun k hk => ?_, ?_⟩
  · exact (hin k hk).elim (fun h => Nat.lt_of_lt_of_le (hM.lt k h) g.size) And.right
  · have hlt := hM.lt
    have : ∀ (pre : List BS), (∀ k, In (pre ++ o :: post) k → k < w.heap.size) → Sep (pre ++ o :: post) → Sep (pre ++ o' :: post) := by
      intro pre
      induction pre with
      | nil =>
        intro hl s
        refine ⟨fun k hk hm => (ho k hk).elim (fun h => s.1 k h hm) fun h => ?_, s.2⟩
        have := hl k (.inr hm)
        omega
      | cons p r ih =>
        intro hl s
        refine ⟨fun k hk hm => ?_, ih (fun k h => hl k (.inr h)) s.2⟩
        rcases in_app.1 hm with h | h | h
        · exact s.1 k hk (in_app.2 (.inl h))
        · rcases ho k h with h | h
          · exact s.1 k hk (in_app.2 (.inr (.inl h)))
          · have := hl k (.inl hk)
            omega
        · exact s.1 k hk (in_app.2 (.inr (.inr h)))
    exact this pre hlt hM.sep
/-- append(out, ys...): the new slice, the world -/
theorem op_append {P : Program} {o : Oper} {a : Act} {K : Act → World → Prop} {Q : Exit → Act → World → Prop} {D : Nat → Prop} (pre post : List BS) (s x : Operand) (ts : TypeId) (ho : o.op = .call { callee := .builtin .append, args := #[s, x], argTypes := #[ts, ts] })
    (z : Value) (bytes : Nat) (ht : P.underlying ts = some (.slice t)) (hi : (P.info? t).map (fun i => (i.zero, i.size, i.bytes)) = some (some z, E.n, bytes)) (hzs : z.cells.size = E.n) (hsz : 0 < E.n)
    (hms : ms = pre ++ abk ad :: post) (hM : MS ms w) (hs : a.eval s = .slice ad xs.length cap) (r : Row E t base F ms w ad cap xs) (ys : List α)
    (sa : Option Addr) (sc : Nat) (hx : a.eval x = .slice sa ys.length sc) (hsrc : LAt E D w.heap sa ys) (hsc : sa = none → sc = 0) (hyw : ∀ y ∈ ys, E.wf (Fr F ms) w.heap y)
    (h63 : xs.length + ys.length ≤ maxLen) (hbytes : (xs.length + ys.length) * bytes ≤ 140737488355328) (hbase : base ≤ w.heap.size)
    (h : ∀ ad' cap' w', Row E t base F (pre ++ abk ad' :: post) w' ad' cap' (xs ++ ys) → Tr (pre ++ abk ad :: post) w (pre ++ abk ad' :: post) w' → Ch (In [abk ad]) w w' → K (a.put o.dst (.slice ad' (xs ++ ys).length cap')) w') : o.wp P a w K Q := by
  subst hms
  obtain ⟨i0, hi0, hz0, hz1, hz2⟩ := info_of hi
  have e1 : xs.length + ys.length = (xs ++ ys).length := by simp
  have key : ∃ v' w', (Builtin.append_ #[ts, ts] o.type #[.slice ad xs.length cap, .slice sa ys.length sc]).run P w = .ok v' w' ∧ w'.ownsRow base t E.n v' (xs.length + ys.length) (xs.flatMap E.cells ++ ys.flatMap E.cells) ∧ w.grownBy w' (ad.map (·.block)) ∧ (v'.ownBlock = ad.map (·.block) ∨ v'.ownBlock = some w.heap.size) := by
    have hlen : (ys.flatMap E.cells).length = ys.length * E.n := flat_len E.len ys
    have h1c : ∀ u ∈ ys.flatMap E.cells, u.oneCell' = true := fun u hu => by
      obtain ⟨y, hy, hu'⟩ := List.mem_flatMap.1 hu
      exact E.one y u hu'
    cases sa with
    | some p =>
      have hob : (Value.slice ad xs.length cap).ownBlock = ad.map (·.block) := by cases ad <;> rfl
      have hnews : ∀ j u, (ys.flatMap E.cells)[j]? = some u → w.cell? (p.add j) = some u := fun j u hj => by
        have hj' := (List.getElem?_eq_some_iff.1 hj).1
        rw [hlen] at hj'
        have hm : j / E.n < ys.length := (Nat.div_lt_iff_lt_mul hsz).2 hj'
        have hdm : j / E.n * E.n + j % E.n = j := by rw [Nat.mul_comm]; exact Nat.div_add_mod j E.n
        have hpos : 0 < ys.length := Nat.lt_of_le_of_lt (Nat.zero_le _) hm
        have hmod : j % E.n < (E.cells (ys.getD (j / E.n) E.dflt)).length := by rw [E.len]; exact Nat.mod_lt _ hsz
        have h2 := flat_get E.len ys (j / E.n) hm (j % E.n) _ (List.getElem?_eq_getElem hmod)
        rw [hdm, hj] at h2
        have h3 := hsrc.cell (j / E.n) hm (j % E.n) u (by rw [List.getElem?_eq_getElem hmod]; exact h2.symm)
        rw [show off (some p) + j / E.n * E.n + j % E.n = off (some p) + j from by omega] at h3
        have h4 := (hsrc.ad hpos).1
        rw [Option.some.inj h4, addr_add]
        exact h3
      obtain ⟨v', w', k1, k2, k3, _, k5⟩ := run_append_own_at (P := P) w base ts o.type t i0 z E.n bytes ht hi0 hz0 hz1 hz2 hzs hsz _ xs.length _ r.own p ys.length sc (ys.flatMap E.cells) hlen hnews h1c h63 hbytes hbase
      rw [hob] at k3 k5
      exact ⟨v', w', k1, k2, k3, k5⟩
    | none =>
      have hy : ys = [] := by
        rcases Nat.eq_zero_or_pos ys.length with e | e
        · exact List.length_eq_zero_iff.1 e
        · have := (hsrc.ad e).1; cases this
      subst hy
      rw [hsc rfl]
      refine ⟨.slice ad xs.length cap, w, ?_, by simpa using r.own, ⟨rfl, rfl, rfl, Nat.le_refl _, fun _ _ _ => rfl⟩, .inl (by cases ad <;> rfl)⟩
      rcases r.own.2 with ⟨h1, h2⟩ | ⟨g, c, cur, h1, h2, h3⟩
      · injection h1 with h1 h4 h5
        subst h1 h5
        rw [h2]
        simp [Builtin.append_, run_underlying ht, sizeOf, typeInfo, hi0, Builtin.lenOf, Builtin.firstCells, loadCells, loadCellsFrom]
      · injection h1 with h1 h4 h5
        subst h1 h5
        exact run_append_owned_none (P := P) w base ts o.type t i0 E.n ht hi0 _ xs.length _ r.own
  obtain ⟨v', w', k1, k2, k3, k4⟩ := key
  rw [← List.flatMap_append, e1] at k2
  have hch : Ch (In [abk ad]) w w' := (Ch.of_grown k3).mono fun k hk => .inl hk
  obtain ⟨ad', cap', hv'⟩ : ∃ ad' cap', v' = .slice ad' (xs ++ ys).length cap' := by
    rcases k2.2 with ⟨h1, h2⟩ | ⟨g, c, cur, h1, _⟩
    · exact ⟨none, 0, by rw [h1, h2]⟩
    · exact ⟨_, _, h1⟩
  subst hv'
  have hob : ∀ (p : Option Addr) (n c : Nat), (Value.slice p n c).ownBlock = p.map (·.block) := fun p n c => by cases p <;> rfl
  rw [hob] at k4
  have hnew : ∀ k, abk ad' k → abk ad k ∨ w.heap.size ≤ k ∧ k < w'.heap.size := fun k hk => by
    rcases k4 with k4 | k4
    · exact .inl (by unfold abk at *; rw [← k4]; exact hk)
    · right
      obtain rfl : w.heap.size = k := by unfold abk at hk; rw [k4] at hk; exact Option.some.inj hk
      refine ⟨Nat.le_refl _, ?_⟩
      rcases k2.2 with ⟨h1, h2⟩ | ⟨g, c, cur, h1, h2, h3, _⟩
      · injection h1 with h1; subst h1; cases k4
      · injection h1 with h1
        subst h1
        obtain rfl : g = w.heap.size := Option.some.inj k4
        rcases Nat.lt_or_ge w.heap.size w'.heap.size with q | q
        · exact q
        · rw [Array.getElem?_eq_none q] at h3; cases h3
  have T := Tr.swap hM hch hnew
  unfold Oper.wp execOp
  simp only [ho, resolve, invoke, builtin, Sem.run_bind, Sem.run_pure, Result.andThen_ok, List.map_toArray, List.map_cons, List.map_nil, hs, hx, k1]
  refine h ad' cap' w' ⟨k2, fun x hx => ?_⟩ T hch
  rcases List.mem_append.1 hx with q | q
  · exact E.tr (r.wf x q) T
  · exact E.tr (hyw x q) T
theorem LAt.mem {D : Nat → Prop} {h : Array Obj} {a : Option Addr} (l : LAt E D h a xs) : ∀ y ∈ xs, E.wf D h y := fun y hy => by
  obtain ⟨i, hi, e⟩ := List.getElem_of_mem hy
  have := l.wf i hi
  rwa [List.getD_eq_getElem?_getD, List.getElem?_eq_getElem hi, Option.getD_some, e] at this
/-- an element of the row is set -/
theorem row_set {ob : Nat} (r : Row E t base F ms w ad cap xs) (m j : Nat) (hm : m < xs.length) (hj : j < E.n) (x' : α) (v : Value) (hc : E.cells x' = (E.cells (xs.getD m E.dflt)).set j v) (hin : abk ad ∈ ms) (hw : E.wf (Fr F ms) w.heap x') (hob : ob = m * E.n + j) :
    Row E t base F ms (w.setCell ⟨blk ad, ob, none⟩ v) ad cap (xs.set m x') ∧ Ch (In [abk ad]) w (w.setCell ⟨blk ad, ob, none⟩ v) ∧ ∃ cur, w.heap[blk ad]? = some (.cells cur t (0, 0)) ∧ ob < cur.size := by
  subst hob
  rcases r.form with ⟨_, h, _⟩ | ⟨had, hb, hlt, _⟩
  · rw [h] at hm; simp at hm
  · have hne : ad ≠ none := fun e => by rw [e] at had; cases had
    have hch : Ch (In [abk ad]) w (w.setCell ⟨blk ad, m * E.n + j, none⟩ v) := (Ch.set w _ _ _).mono fun k hk => by
      subst hk; exact .inl (abk_of hne)
    have hkp : Kp (Fr F ms) w.heap (w.setCell ⟨blk ad, m * E.n + j, none⟩ v).heap := hch.kp fun k _ h1 h2 => h1.1 (in_mem hin (In.one.1 h2))
    rcases r.own.2 with ⟨h1, h2⟩ | ⟨g, c, cur, h1, h2, h3, h4, h5, h6, h7⟩
    · rw [h2] at hm; omega
    · injection h1 with h1 _ h8
      subst h1 h8
      have hmn : m * E.n + j < xs.length * E.n := by
        have : (m + 1) * E.n ≤ xs.length * E.n := Nat.mul_le_mul_right _ hm
        rw [Nat.add_mul] at this; omega
      have hsz : m * E.n + j < cur.size := by
        rw [h6]; exact Nat.lt_of_lt_of_le hmn (Nat.mul_le_mul_right _ h4)
      refine ⟨⟨⟨by rw [flat_len E.len, List.length_set], .inr ⟨g, cap, cur.setIfInBounds (m * E.n + j) v, by rw [List.length_set], h2, ?_, by rw [List.length_set]; exact h4, h5, by simpa using h6, ?_⟩⟩, fun x hx => ?_⟩, hch, cur, h3, hsz⟩
      · simp only [World.setCell, Array.getElem?_modify]
        show (if g = g then _ else _) = _
        rw [if_pos rfl, h3]; rfl
      · rw [flat_set E.len x' j v hj xs m hm hc, ← h7, List.length_set, Array.toList_setIfInBounds, List.take_set]
      · have : x ∈ xs ∨ x = x' := by
          rcases List.mem_or_eq_of_mem_set hx with q | q
          · exact .inl q
          · exact .inr q
        rcases this with q | q
        · exact E.keep hkp (r.wf x q)
        · subst q; exact E.keep hkp hw
end
end Go.Proofs.Ytfanmniaolncbaa.V
