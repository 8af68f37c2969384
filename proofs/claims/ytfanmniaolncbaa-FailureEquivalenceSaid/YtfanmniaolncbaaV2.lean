/- Regions that draw their order, in the form that my walks use: a list of what each slot holds afterwards, one obligation an operation. -/
import Derived.Test.YtfanmniaolncbaaV1
set_option linter.unusedVariables false
set_option linter.unusedSimpArgs false
namespace Go.Proofs.Ytfanmniaolncbaa.V
open Go.RowKit
/-- what is said of a slot's value stays true while old blocks (but those of M) stand -/
structure StP (M : Nat → Prop) where
  p : Value → World → Prop
  st : ∀ v w w', Ch M w w' → p v w → p v w'
def isV (M : Nat → Prop) (v : Value) : StP M := ⟨fun u _ => u = v, fun _ _ _ _ h => h⟩
def anyV (M : Nat → Prop) : StP M := ⟨fun _ _ => True, fun _ _ _ _ h => h⟩
def lookE {M : Nat → Prop} (E : List (Nat × StP M)) (t : Nat) (v : Value) (w : World) : Prop :=
  match E with
  | [] => True
  | (i, p) :: r => bif Nat.beq i t then p.p v w else lookE r t v w
theorem lookE_st {M : Nat → Prop} : ∀ (E : List (Nat × StP M)) (t : Nat) (v : Value) (w w' : World), Ch M w w' → lookE E t v w → lookE E t v w'
  | [], _, _, _, _, _, h => h
  | (i, p) :: r, t, v, w, w', hc, h => by
    unfold lookE at *
    cases hb : Nat.beq i t
    · rw [hb] at h; exact lookE_st r t v w w' hc h
    · rw [hb] at h; exact p.st v w w' hc h
def deps {M : Nat → Prop} (E : List (Nat × StP M)) (a : Act) (w : World) : List Nat → Prop
  | [] => True
  | d :: r => lookE E d (a.tmps.getD d undef) w ∧ deps E a w r
structure Done {M : Nat → Prop} (o : Oper) (E : List (Nat × StP M)) (I : World → Prop) (N : Nat) (a : Act) (w : World) (a' : Act) (w' : World) : Prop where
  put : ∃ v, a' = a.put o.dst v ∧ ∀ d, o.dst = some d → d < N ∧ lookE E d v w'
  ch : Ch M w w'
  inv : I w'
theorem Done.same {M : Nat → Prop} {o : Oper} {E : List (Nat × StP M)} {I : World → Prop} {N : Nat} {a : Act} {w : World} {v : Value} {d : Nat} (hd : o.dst = some d) (hN : d < N) (hE : lookE E d v w) (hI : I w) : Done o E I N a w (a.put o.dst v) w :=
  ⟨⟨v, rfl, fun e he => by rw [hd] at he; cases he; exact ⟨hN, hE⟩⟩, Ch.refl _, hI⟩
theorem Done.mk' {M : Nat → Prop} {o : Oper} {E : List (Nat × StP M)} {I : World → Prop} {N : Nat} {a : Act} {w w' : World} {v : Value} {d : Nat} (hd : o.dst = some d) (hN : d < N) (hE : lookE E d v w') (hc : Ch M w w') (hI : I w') : Done o E I N a w (a.put o.dst v) w' :=
  ⟨⟨v, rfl, fun e he => by rw [hd] at he; cases he; exact ⟨hN, hE⟩⟩, hc, hI⟩
theorem Done.none {M : Nat → Prop} {o : Oper} {E : List (Nat × StP M)} {I : World → Prop} {N : Nat} {a : Act} {w : World} {v : Value} (hd : o.dst = none) (hI : I w) : Done o E I N a w (a.put o.dst v) w :=
  ⟨⟨v, rfl, fun e he => by rw [hd] at he; cases he⟩, Ch.refl _, hI⟩
def steps {M : Nat → Prop} (P : Program) (ops : Array Oper) (Q : Exit → Act → World → Prop) (N : Nat) (L : List (Nat × Value)) (W : World) (E : List (Nat × StP M)) (I : World → Prop) : Nat → List Oper → List (List Nat) → Prop
  | i, o :: r, D :: Ds => (∀ a w, Ch M W w → I w → Slots N L a → deps E a w D → wpOp P ops Q i (Done o E I N a w) a w) ∧ steps P ops Q N L W E I (i + 1) r Ds
  | _, _, _ => True
def isHead (ops : Array Oper) (n d : Nat) : Bool := (List.range n).any fun j => match ops[j]? with | some p => p.dst == some d | none => false
def depsOk (ops : Array Oper) (n : Nat) : Nat → List (List Nat) → Bool
  | _, [] => true
  | i, D :: Ds => (match ops[i]? with | none => false | some o => D.all fun d => (o.looksAt ops).contains d && isHead ops n d) && depsOk ops n (i + 1) Ds
def keysOk (ops : Array Oper) (n : Nat) (L : List (Nat × Value)) : Bool := L.all fun p => !isHead ops n p.1
def outsOk (ops : Array Oper) (n : Nat) (outs : List Nat) : Bool := outs.all (isHead ops n)
theorem isHead_spec {ops : Array Oper} {n d : Nat} (h : isHead ops n d = true) : ∃ j p, j < n ∧ ops[j]? = some p ∧ p.dst = some d := by
  obtain ⟨j, hj, h2⟩ := List.any_eq_true.1 h
  cases hp : ops[j]? with
  | none => rw [hp] at h2; cases h2
  | some p => rw [hp] at h2; exact ⟨j, p, List.mem_range.1 hj, hp, by simpa using h2⟩
theorem look_mem {i : Nat} {v : Value} : ∀ {L : List (Nat × Value)}, look i L = some v → (i, v) ∈ L
  | [], h => by cases h
  | (j, u) :: r, h => by
    rw [look_cons] at h
    by_cases e : j = i
    · rw [if_pos e] at h; subst e; cases h; exact List.mem_cons_self
    · rw [if_neg e] at h; exact List.mem_cons_of_mem _ (look_mem h)
theorem Slots.base {N n : Nat} {L : List (Nat × Value)} {a₀ a : Act} {ops : Array Oper} (S : Slots N L a₀) (hk : keysOk ops n L = true) (h1 : a.tmps.size = a₀.tmps.size) (h2 : a.defers = a₀.defers)
    (h3 : ∀ t, (∀ j, j < n → ∀ o, ops[j]? = some o → o.dst ≠ some t) → a.tmps.getD t undef = a₀.tmps.getD t undef) : Slots N L a :=
  ⟨h1.trans S.size, h2.trans S.defers, fun i v hv => by
    rw [h3 i ?_]
    · exact S.get i v hv
    · intro j hj o ho hd
      have h4 := List.all_eq_true.1 hk _ (look_mem hv)
      simp only [Bool.not_eq_true'] at h4
      have : isHead ops n i = true := List.any_eq_true.2 ⟨j, List.mem_range.2 hj, by rw [ho]; simp [hd]⟩
      rw [this] at h4; cases h4⟩
theorem steps_get {M : Nat → Prop} {P : Program} {ops : Array Oper} {Q : Exit → Act → World → Prop} {N : Nat} {L : List (Nat × Value)} {W : World} {E : List (Nat × StP M)} {I : World → Prop} : ∀ (l : List Oper) (Ds : List (List Nat)) (k i : Nat), i < Ds.length → l.length = Ds.length →
    steps P ops Q N L W E I k l Ds → ∃ o D, l[i]? = some o ∧ Ds[i]? = some D ∧ ∀ a w, Ch M W w → I w → Slots N L a → deps E a w D → wpOp P ops Q (k + i) (Done o E I N a w) a w
  | [], Ds, _, i, h, hl, _ => by simp at hl; omega
  | o :: l, [], _, i, h, _, _ => by simp at h
  | o :: l, D :: Ds, k, 0, _, _, h => ⟨o, D, rfl, rfl, h.1⟩
  | o :: l, D :: Ds, k, i + 1, hi, hl, h => by
    obtain ⟨o', D', h1, h2, h3⟩ := steps_get l Ds (k + 1) i (by simpa using hi) (by simpa using hl) h.2
    exact ⟨o', D', by simpa using h1, by simpa using h2, by rw [show k + (i + 1) = k + 1 + i from by omega]; exact h3⟩
theorem wp_heads {M : Nat → Prop} {P : Program} {id : Nat} {Q : Exit → Act → World → Prop} {a₀ : Act} {w : World} {l : List Oper} {N : Nat} {L : List (Nat × Value)} (S : Slots N L a₀) (n : Nat) (E : List (Nat × StP M)) (I : World → Prop) (Ds : List (List Nat)) (outs : List Nat) (tail : List Oper)
    (htl : tail = l.drop n) (hm : P.follows .mixedOrders = true) (hok : (headOk l.toArray n && depsOk l.toArray n 0 Ds && keysOk l.toArray n L && outsOk l.toArray n outs && tailOk l.toArray n) = true) (hlen : Ds.length = n) (hI : I { w with drawn := w.drawn + 1 })
    (step : steps P l.toArray Q N L w E I 0 (l.take n) Ds)
    (fin : ∀ a w', Ch M w w' → I w' → Slots N L a → deps E a w' outs → wpList P l.toArray Q tail a w') : (Code.region id l.toArray true).wp P Q a₀ w := by
  simp only [Bool.and_eq_true] at hok
  obtain ⟨⟨⟨⟨h1, h2⟩, h3⟩, h4⟩, h5⟩ := hok
  have hn : n ≤ l.length := by
    simp only [tailOk, Bool.and_eq_true, decide_eq_true_eq] at h5
    simpa using h5.1.1
  refine wp_region_heads n (lookE E) (fun w' => Ch M w w' ∧ I w') tail htl hm h1 h5 ⟨(Ch.refl _).drew, hI⟩ ?_ ?_
  · intro i hi o ho a w' hC hs hd hb hE
    obtain ⟨o', D, e1, e2, h⟩ := steps_get (l.take n) Ds 0 i (by omega) (by simp; omega) step
    obtain rfl : o' = o := by
      rw [List.getElem?_take_of_lt hi] at e1
      have : l.toArray[i]? = l[i]? := by simp
      rw [this, e1] at ho
      exact Option.some.inj ho
    have hdep : ∀ D', (∀ d ∈ D', d ∈ D) → deps E a w' D' := by
      intro D'
      induction D' with
      | nil => intro _; trivial
      | cons d r ih =>
        intro hsub
        refine ⟨?_, ih fun d hd => hsub d (List.mem_cons_of_mem _ hd)⟩
        have hget : ∀ (Ds : List (List Nat)) (k i : Nat), depsOk l.toArray n k Ds = true → Ds[i]? = some D → ∃ o, l.toArray[k + i]? = some o ∧ ∀ d ∈ D, d ∈ o.looksAt l.toArray ∧ isHead l.toArray n d = true := by
          intro Ds
          induction Ds with
          | nil => intro k i _ h; simp at h
          | cons D0 Ds ih =>
            intro k i hk hi
            simp only [depsOk, Bool.and_eq_true] at hk
            cases i with
            | zero =>
              obtain rfl : D0 = D := by simpa using hi
              cases hp : l.toArray[k]? with
              | none => rw [hp] at hk; cases hk.1
              | some p =>
                rw [hp] at hk
                refine ⟨p, rfl, fun d hd => ?_⟩
                have := List.all_eq_true.1 hk.1 d hd
                simpa [Bool.and_eq_true, List.contains_iff_mem] using this
            | succ i =>
              obtain ⟨o, g1, g2⟩ := ih (k + 1) i hk.2 (by simpa using hi)
              exact ⟨o, by rw [show k + (i + 1) = k + 1 + i from by omega]; exact g1, g2⟩
        obtain ⟨o2, g1, g2⟩ := hget Ds 0 i h2 e2
        rw [Nat.zero_add, ho] at g1
        obtain rfl := Option.some.inj g1
        obtain ⟨g3, g4⟩ := g2 d (hsub d List.mem_cons_self)
        obtain ⟨j, p, g5, g6, g7⟩ := isHead_spec g4
        exact hE j p d g5 g6 g7 g3
    have h' := h a w' hC.1 hC.2 (S.base h3 hs hd hb) (hdep D fun d hd => hd)
    rw [Nat.zero_add] at h'
    refine wpOp_mono ?_ h'
    rintro a' w2 ⟨⟨v, hv, hd'⟩, hc, hi'⟩
    refine ⟨⟨v, hv, fun d hdd => ?_⟩, ⟨hC.1.same hc, hi'⟩, fun t v => lookE_st E t v _ _ hc⟩
    obtain ⟨k1, k2⟩ := hd' d hdd
    exact ⟨by rw [hs, S.size]; exact k1, k2⟩
  · intro a w' hC st
    refine fin a w' hC.1 hC.2 (S.base h3 st.size st.defers st.base) ?_
    have : ∀ outs', (∀ d ∈ outs', isHead l.toArray n d = true) → deps E a w' outs' := by
      intro outs'
      induction outs' with
      | nil => intro _; trivial
      | cons d r ih =>
        intro h
        obtain ⟨j, p, g5, g6, g7⟩ := isHead_spec (h d List.mem_cons_self)
        exact ⟨st.done j g5 (by simp [g5]) p d g6 g7, ih fun d hd => h d (List.mem_cons_of_mem _ hd)⟩
    exact this outs (List.all_eq_true.1 h4)
theorem get_bool {a : Act} {d : Nat} {b : Bool} (h : a.tmps.getD d undef = .bool b) : a.tmps[d]? = some (.bool b) := by
  rw [Array.getD_eq_getD_getElem?] at h
  cases hc : a.tmps[d]? with
  | none => rw [hc] at h; cases h
  | some v => rw [hc] at h; exact congrArg some h
section
variable {P : Program} {ops : Array Oper} {Q : Exit → Act → World → Prop} {i : Nat} {o : Oper} {a : Act} {w : World} {K : Act → World → Prop}
theorem head_op (ho : ops[i]? = some o) (hg : o.guard = none) (h : o.wp P a w K Q) : wpOp P ops Q i K a w := by
  unfold wpOp
  rw [ho]
  simp only [Region.wanted, hg, if_true]
  exact .inl h
theorem head_on {j gd : Nat} {b : Bool} {p : Oper} (ho : ops[i]? = some o) (hg : o.guard = some (j, b)) (hj : ops[j]? = some p) (hd : p.dst = some gd) (hv : a.tmps.getD gd undef = .bool b) (h : o.wp P a w K Q) : wpOp P ops Q i K a w := by
  unfold wpOp
  rw [ho]
  have : Region.wanted o (yielded ops a.tmps) = true := by
    have hv' := get_bool hv
    simp [Region.wanted, hg, yielded, hj, hd, hv']
  simp only [this, if_true]
  exact .inl h
theorem head_off {j gd : Nat} {b c : Bool} {p : Oper} (ho : ops[i]? = some o) (hg : o.guard = some (j, b)) (hj : ops[j]? = some p) (hd : p.dst = some gd) (hv : a.tmps.getD gd undef = .bool c) (hbc : c ≠ b) (h : K (a.put o.dst undef) w) : wpOp P ops Q i K a w := by
  unfold wpOp
  rw [ho]
  have : Region.wanted o (yielded ops a.tmps) = false := by
    have hv' := get_bool hv
    simp [Region.wanted, hg, yielded, hj, hd, hv', hbc]
  simp only [this]
  exact h
end
section
variable {P : Program} {Q : Exit → Act → World → Prop} {n : Nat} {L : List (Nat × Value)} {a : Act} {w : World} {ops : Array Oper} {rest : List Oper} {o : Oper}
theorem seq_on {j gd : Nat} {b : Bool} {p : Oper} (S : Slots n L a) (hg : o.guard = some (j, b)) (hj : ops[j]? = some p) (hd : p.dst = some gd) (hv : look gd L = some (.bool b)) (h : o.wp P a w (wpList P ops Q rest) Q) : wpList P ops Q (o :: rest) a w := by
  unfold wpList
  have hv' := get_bool (S.get gd _ hv)
  rw [if_pos (by simp [Region.wanted, hg, yielded, hj, hd, hv'])]
  exact .inl h
theorem seq_off {j gd : Nat} {b c : Bool} {p : Oper} (S : Slots n L a) (hg : o.guard = some (j, b)) (hj : ops[j]? = some p) (hd : p.dst = some gd) (hv : look gd L = some (.bool c)) (hbc : c ≠ b) {e : Nat} (he : o.dst = some e) (hen : e < n) (h : ∀ a', Slots n ((e, undef) :: L) a' → wpList P ops Q rest a' w) : wpList P ops Q (o :: rest) a w := by
  unfold wpList
  have hv' := get_bool (S.get gd _ hv)
  rw [if_neg (by simp [Region.wanted, hg, yielded, hj, hd, hv', hbc])]
  rw [he]
  exact h _ (S.put hen)
end
end Go.Proofs.Ytfanmniaolncbaa.V
