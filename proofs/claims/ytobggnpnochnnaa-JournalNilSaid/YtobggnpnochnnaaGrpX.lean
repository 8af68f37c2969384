/- U5 U6 U7 in one text -/
import Derived.Test.YtobggnpnochnnaaGrpD
import Derived.Test.YtobggnpnochnnaaGrpU
set_option linter.unusedVariables false
set_option linter.unusedSimpArgs false
/- Two facts of the call's own that a callee changes at once: a struct that holds a row. -/
namespace Go.Proofs.Ytobggnpnochnnaa.V
open Go.RowKit
theorem sep_idx : ∀ {ms : List BS}, (∀ i j : Nat, i ≠ j → ∀ (o p : BS), ms[i]? = some o → ms[j]? = some p → ∀ k, o k → ¬ p k) → Sep ms
  | [], _ => trivial
  | o :: r, h => ⟨fun k hk hm => by
      have : ∀ {l : List BS}, In l k → ∃ (j : Nat) (p : BS), l[j]? = some p ∧ p k := fun {l} => by
        induction l with
        | nil => intro h; exact h.elim
        | cons q l ih =>
          intro h
          rcases h with h | h
          · exact ⟨0, q, rfl, h⟩
          · obtain ⟨j, p, h1, h2⟩ := ih h; exact ⟨j + 1, p, h1, h2⟩
      obtain ⟨j, p, h1, h2⟩ := this hm
      exact h 0 (j + 1) (by omega) o p rfl h1 k hk h2,
    sep_idx fun i j hij a b ha hb => h (i + 1) (j + 1) (by omega) a b ha hb⟩
theorem in_at {l : List BS} {k : Nat} : In l k ↔ ∃ (j : Nat) (p : BS), l[j]? = some p ∧ p k := by
  induction l with
  | nil => exact ⟨fun h => h.elim, fun ⟨j, p, h, _⟩ => by simp at h⟩
  | cons q l ih =>
    constructor
    · rintro (h | h)
      · exact ⟨0, q, rfl, h⟩
      · obtain ⟨j, p, h1, h2⟩ := ih.1 h; exact ⟨j + 1, p, h1, h2⟩
    · rintro ⟨j, p, h1, h2⟩
      cases j with
      | zero => cases h1; exact .inl h2
      | succ j => exact .inr (ih.2 ⟨j, p, h1, h2⟩)
section
variable {F : Nat → Prop} {w0 w w' : World} {m0 : List BS} {n : Nat} {L : List (Nat × Value)} {rs : List RF} {os : List OF} {a : Act} {α : Type} {E : Enc α} {t : TypeId} {base : Nat} {ms : List BS} {ad : Option Addr} {cap : Nat} {xs : List α}
/-- a row of the caller's own as one that the callee may rewrite, and back -/
theorem Row.dn1 (r : Row E t base F ms w ad cap xs) {js : List Nat} : Row E t base (Ex F ms) (picks ms js) w ad cap xs := ⟨r.own, fun x hx => V.dn1 (r.wf x hx)⟩
theorem Row.ret {m : List BS} (r : Row E t base (Ex F ms) m w ad cap xs) : (rwO E t base ad cap xs).p F (In ms) w := ⟨r.own, fun x hx => Enc.mono _ (fun _ _ h => ⟨fun e => h.2 (.inl e), fun e => h.2 (.inr e)⟩) (r.wf x hx)⟩
theorem Row.ret2 {m : List BS} {W : Nat → Prop} (r : Row E t base (Ex F ms) m w ad cap xs) (h : ∀ k, W k → In ms k ∨ In m k) : (rwO E t base ad cap xs).p F W w := ⟨r.own, fun x hx => Enc.mono _ (fun k _ g => ⟨fun e => (h k e).elim (fun e => g.2 (.inl e)) g.1, fun e => g.2 (.inr e)⟩) (r.wf x hx)⟩
theorem St.bs0 (S : St F w0 m0 n L rs os a w) : w0.heap.size ≤ w.heap.size := S.m.c.size
end
section
variable {F : Nat → Prop} {w0 w w' : World} {m0 : List BS} {n : Nat} {L L' : List (Nat × Value)} {rs : List RF} {os : List OF} {a a' : Act}
theorem St.k2 {f g : OF} (S : St F w0 m0 n L rs os a w) (i j : Nat) (hij : i ≠ j) (hi : nth os i = some f) (hj : nth os j = some g) (f' g' : OF) (s : Slots n L' a') (t : Tr [f.o, g.o] w [f'.o, g'.o] w')
    (hf : ∀ W, f'.p F W w') (hg : ∀ W, (∀ k, W k → In (ow os) k ∨ In [f'.o, g'.o] k) → g'.p F W w') : St F w0 m0 n L' rs ((os.set i f').set j g') a' w' := by
  have hof := ow_get hi
  have hog := ow_get hj
  have il : i < os.length := by rw [nth_get] at hi; exact (List.getElem?_eq_some_iff.1 hi).1
  have jl : j < os.length := by rw [nth_get] at hj; exact (List.getElem?_eq_some_iff.1 hj).1
  have hget : ∀ k o, (ow ((os.set i f').set j g'))[k]? = some o → (k = j ∧ o = g'.o) ∨ (k = i ∧ k ≠ j ∧ o = f'.o) ∨ (k ≠ i ∧ k ≠ j ∧ (ow os)[k]? = some o) := fun k o h => by
    rw [ow_map, List.getElem?_map, List.getElem?_set, List.getElem?_set] at h
    by_cases e : j = k
    · subst e
      rw [if_pos rfl, if_pos (by rw [List.length_set]; exact jl)] at h
      exact .inl ⟨rfl, (Option.some.inj h).symm⟩
    · rw [if_neg e] at h
      by_cases e2 : i = k
      · subst e2
        rw [if_pos rfl, if_pos il] at h
        exact .inr (.inl ⟨rfl, fun q => e q.symm, (Option.some.inj h).symm⟩)
      · rw [if_neg e2] at h
        refine .inr (.inr ⟨fun q => e2 q.symm, fun q => e q.symm, ?_⟩)
        rw [ow_map, List.getElem?_map]; exact h
  have hsub : ∀ k, In [f.o, g.o] k → In (ow os) k := fun k hk => by
    rcases hk with hk | hk | hk
    · exact in_at.2 ⟨i, _, hof, hk⟩
    · exact in_at.2 ⟨j, _, hog, hk⟩
    · exact hk.elim
  have hnew : ∀ k, In (ow ((os.set i f').set j g')) k → In (ow os) k ∨ In [f'.o, g'.o] k := fun k hk => by
    obtain ⟨m, o, h1, h2⟩ := in_at.1 hk
    rcases hget m o h1 with ⟨_, rfl⟩ | ⟨_, _, rfl⟩ | ⟨_, _, h⟩
    · exact .inr (.inr (.inl h2))
    · exact .inr (.inl h2)
    · exact .inl (in_at.2 ⟨m, o, h, h2⟩)
  have hMS := S.m.c.ms
  -- a block of the changed ones is none of another fact's
  have hout : ∀ m o, m ≠ i → m ≠ j → (ow os)[m]? = some o → ∀ k, o k → ¬ In [f'.o, g'.o] k := fun m o hmi hmj hm k hk hin => by
    rcases t.sub k hin with h | h
    · have := hMS.sep.out m [i, j] (by simp; omega) hm hk
      simp only [picks, List.filterMap_cons, hof, hog, List.filterMap_nil] at this
      exact this h
    · have := hMS.lt k (in_at.2 ⟨m, o, hm, hk⟩); omega
  have hfg : ∀ k, f'.o k → ¬ g'.o k := fun k h1 h2 => t.ms.sep.1 k h1 (.inl h2)
  have T : Tr (ow os) w (ow ((os.set i f').set j g')) w' := by
    refine ⟨t.ch.mono hsub, fun k hk => ?_, ⟨fun k hk => ?_, sep_idx fun x y hxy o p hx hy k ho hp => ?_⟩⟩
    · rcases hnew k hk with h | h
      · exact .inl h
      · exact (t.sub k h).imp (hsub k) id
    · rcases hnew k hk with h | h
      · exact Nat.lt_of_lt_of_le (hMS.lt k h) t.size
      · exact t.ms.lt k h
    · rcases hget x o hx with ⟨rfl, rfl⟩ | ⟨rfl, hxj, rfl⟩ | ⟨hxi, hxj, hx2⟩ <;> rcases hget y p hy with ⟨rfl, rfl⟩ | ⟨rfl, hyj, rfl⟩ | ⟨hyi, hyj, hy2⟩
      · exact hxy rfl
      · exact hfg k hp ho
      · exact hout y p hyi hyj hy2 k hp (.inr (.inl ho))
      · exact hfg k ho hp
      · exact hxy rfl
      · exact hout y p hyi hyj hy2 k hp (.inl ho)
      · exact hout x o hxi hxj hx2 k ho (.inr (.inl hp))
      · exact hout x o hxi hxj hx2 k ho (.inl hp)
      · have := hMS.sep.out x [y] (by simp; omega) hx2 ho
        simp only [picks, List.filterMap_cons, hy2, List.filterMap_nil] at this
        exact this (.inl hp)
  refine ⟨s, S.m.go T fun q hq => ?_⟩
  obtain ⟨m, hm⟩ := idx_of hq
  rw [nth_get, List.getElem?_set, List.getElem?_set] at hm
  by_cases e : j = m
  · subst e
    rw [if_pos rfl, if_pos (by rw [List.length_set]; exact jl)] at hm
    cases hm
    exact hg _ hnew
  · rw [if_neg e] at hm
    by_cases e2 : i = m
    · subst e2
      rw [if_pos rfl, if_pos il] at hm
      cases hm
      exact hf _
    · rw [if_neg e2, ← nth_get] at hm
      refine q.st T.mv (fun k hk ho => t.ch.block k hk fun hin => ?_) (S.m.o q (nth_mem hm))
      have := hMS.sep.out m [i, j] (by simp; omega) (ow_get hm) ho
      simp only [picks, List.filterMap_cons, hof, hog, List.filterMap_nil] at this
      exact this hin
end
section
variable {P : Program} {ops : Array Oper} {F : Nat → Prop} {w0 : World} {m0 : List BS} {n : Nat} {L : List (Nat × Value)} {fs : List RF} {os : List OF} {ty : TypeId} {pos : String} {af : Array Edge}
/-- a call of a closure without captures -/
theorem ocf {d : Nat} {x : Operand} {f : FuncId} {args : Array Operand} {ats : Array TypeId} {vs : Array Value} {v : Value} (h : ∀ {a w}, St F w0 m0 n L fs os a w → Calls P f vs w fun e w' => e = .returned v ∧ Tr [] w [] w') (hf : Callable P f)
    (hx : evS L x = some (.func (.func f) #[] #[]) := by rfl) (hv : args.toList.map (evS L) = vs.toList.map some := by rfl) (hd : d < n := by decide) :
    One P ops (St F w0 m0 n L fs os) [] ⟨some d, .call ⟨.value x, args, ats⟩, ty, pos, af, none⟩ (St F w0 m0 n ((d, v) :: L) fs os) := fun K Q a w S k => by
  unfold Core
  rw [if_pos (by simp [Region.wanted])]
  have h' : Calls P f (vs ++ #[]) w fun e w' => e = .returned v ∧ Tr [] w [] w' := by rw [Array.append_empty]; exact h S
  exact .inl (op_callv (caps := #[]) (S.s.eval hx) (args_eval S.s hv) hf h' fun e w' ⟨he, t⟩ => ⟨v, he, k _ _ (S.k0 (S.s.put hd) t) t.ch⟩)
end
end Go.Proofs.Ytobggnpnochnnaa.V
/- A drawn region whose store stands amid heads: addresses behind it that read heads are made in any order beside it. -/
namespace Go.Proofs.Ytobggnpnochnnaa.V
open Go.RowKit
/-- heads 0..n-1; n: what may not be moved; n+1..n+m: addresses, in any order beside all; then a chain -/
def lazyOk2 (ops : Array Oper) (n m : Nat) (L : List (Nat × Value)) (Z : List (Nat × Value)) : Bool :=
  decide (n + m + 1 < ops.size) && Region.sinkB .any ops n && Region.sinkB .any ops (n + m + 1) && Region.chainB .any ops (n + m + 1) &&
  Region.seqB .any ops (ops.size - (n + m + 1)) (n + m + 1) (Array.replicate (n + m + 1) true ++ Array.replicate (ops.size - (n + m + 1)) false) &&
  L.all (fun p => (List.range (n + m + 1)).all fun j => match ops[j]? with | some q => q.dst != some p.1 | none => false) &&
  (match ops[n]? with | some o => o.after.all fun e => !Region.binds .any e || decide (e.on < n) | none => false) &&
  decide (Z.length = m) && (List.range m).all fun k => match ops[n + 1 + k]?, Z[k]? with
    | some o, some z => o.dst == some z.1 && o.guard.isNone && ((o.after.all fun e => !Region.binds .any e || ((e.on != n) && decide (e.on < n + 1 + k))) &&
        (List.range (n + m + 1)).all fun j => match ops[j]? with
          | some p => (j == n + 1 + k || p.dst != some z.1) && (decide (n ≤ j) || !(p.looksAt ops).contains z.1)
          | none => false)
    | _, _ => false
section
variable {P : Program} {Q : Exit → Act → World → Prop}
theorem lazy_main2 {M : Nat → Prop} {ops : Array Oper} {n m N : Nat} {L Z : List (Nat × Value)} {W : World} {E : List (Nat × StP M)} {I : World → Prop} {Ds : List (List Nat)} {outs : List Nat} {J : Act → World → Prop} {t1 : Oper} {rest : List Oper} {R : Nat → List (Nat × Value)}
    (ht1 : ops[n]? = some t1) (hg1 : t1.guard = none) (hrest : rest = ops.toList.drop (n + m + 1))
    (hok : (headOk ops n && depsOk ops n 0 Ds && keysOk ops n L && outsOk ops n outs && lazyOk2 ops n m L Z) = true) (hlen : Ds.length = n)
    (step : ∀ i, i < n → ∃ o D, ops[i]? = some o ∧ Ds[i]? = some D ∧ ∀ a w, Ch M W w → I w → Slots N L a → deps E a w D → wpOp P ops Q i (Done o E I N a w) a w)
    (lzy : ∀ k, k < m → ∃ (o : Oper) (z : Nat × Value), ops[n + 1 + k]? = some o ∧ Z[k]? = some z ∧ z.1 < N ∧ ∀ a w, Slots N L a → (∀ p ∈ R k, a.tmps.getD p.1 undef = p.2) → (execOp a.eval o).run P w = .ok (.value z.2) w)
    (hR : ∀ k, k < m → ∀ p ∈ R k, ∃ j q, j < n ∧ ops[j]? = some q ∧ q.dst = some p.1 ∧ (∃ o, ops[n + 1 + k]? = some o ∧ ∃ e, e ∈ o.after ∧ Region.binds .any e = true ∧ e.on = j) ∧ ∀ u w, lookE E p.1 u w → u = p.2)
    (hRJ : ∀ a w, J a w → ∀ k, k < m → ∀ p ∈ R k, a.tmps.getD p.1 undef = p.2)
    (main : ∀ a w, Ch M W w → I w → Slots N L a → deps E a w outs → t1.wp P a w J Q)
    (stay : ∀ a w d v, (∃ (k : Nat) (z : Nat × Value), Z[k]? = some z ∧ z.1 = d) → J a w → J (a.put (some d) v) w) (hJ : ∀ a w, J a w → Slots N L a)
    (fin : ∀ a w, J a w → Slots N Z a → wpList P ops Q rest a w) :
    ∀ (f : Nat) (listed : Array Bool) (a : Act) (w : World), left (n + m + 1) listed = f → HeadInv .any ops (n + m + 1) listed → Slots N L a →
      (∀ k z, Z[k]? = some z → listed.getD (n + 1 + k) false = true → a.tmps.getD z.1 undef = z.2) →
      (listed.getD n false = false → Ch M W w ∧ I w ∧ ∀ j, j < n → listed.getD j false = true → ∀ o d, ops[j]? = some o → o.dst = some d → lookE E d (a.tmps.getD d undef) w) →
      (listed.getD n false = true → J a w) →
      wpAny P .any ops Q (f + (ops.size - (n + m + 1))) listed a w := by
  simp only [Bool.and_eq_true] at hok
  obtain ⟨⟨⟨⟨h1, h2⟩, h3⟩, h4⟩, h5⟩ := hok
  simp only [lazyOk2, Bool.and_eq_true, decide_eq_true_eq] at h5
  obtain ⟨⟨⟨⟨⟨⟨⟨⟨hsz, hsink⟩, hsink2⟩, hchain⟩, hseq⟩, hLk⟩, ht1e⟩, hZl⟩, hz⟩ := h5
  have zfact : ∀ k, k < m → ∃ (o : Oper) (z : Nat × Value), ops[n + 1 + k]? = some o ∧ Z[k]? = some z ∧ o.dst = some z.1 ∧ o.guard = none ∧ (∀ e ∈ o.after, Region.binds .any e = true → ¬ e.on = n ∧ e.on < n + 1 + k) ∧
      ∀ j, j < n + m + 1 → ∃ p, ops[j]? = some p ∧ (j = n + 1 + k ∨ p.dst ≠ some z.1) ∧ (n ≤ j ∨ z.1 ∉ p.looksAt ops) := fun k hk => by
    have g := List.all_eq_true.1 hz k (List.mem_range.2 hk)
    cases ho : ops[n + 1 + k]? with
    | none => rw [ho] at g; cases g
    | some o =>
      cases hzk : Z[k]? with
      | none => rw [ho, hzk] at g; cases g
      | some z =>
        rw [ho, hzk] at g
        simp only [Bool.and_eq_true, beq_iff_eq, Option.isNone_iff_eq_none] at g
        refine ⟨o, z, rfl, rfl, g.1.1, g.1.2, fun e he hb => ?_, fun j hj => ?_⟩
        · have := Array.all_eq_true_iff_forall_mem.1 g.2.1 e he
          simpa [hb] using this
        have g2 := List.all_eq_true.1 g.2.2 j (List.mem_range.2 hj)
        cases hp : ops[j]? with
        | none => rw [hp] at g2; cases g2
        | some p =>
          rw [hp] at g2
          simp only [Bool.and_eq_true, Bool.or_eq_true, beq_iff_eq, bne_iff_ne, decide_eq_true_eq, Bool.not_eq_true'] at g2
          exact ⟨p, rfl, g2.1, g2.2.imp id fun h hm => by rw [List.contains_eq_mem] at h; simp [hm] at h⟩
  -- no key of L is written
  have nokey : ∀ j, j < n + m + 1 → ∀ p, ops[j]? = some p → ∀ i v, look i L = some v → p.dst ≠ some i := fun j hj p hp i v hv => by
    have g := List.all_eq_true.1 hLk _ (look_mem hv)
    have g2 := List.all_eq_true.1 g j (List.mem_range.2 hj)
    rw [hp] at g2
    simpa using g2
  have putL : ∀ {j : Nat} {p : Oper} {a : Act} {v : Value}, j < n + m + 1 → ops[j]? = some p → Slots N L a → Slots N L (a.put p.dst v) := fun {j p a v} hj hp S => by
    cases hd : p.dst with
    | none => exact S
    | some d =>
      refine ⟨by simp [Act.put, S.size], S.defers, fun i u hu => ?_⟩
      have hne := nokey j hj p hp i u hu
      rw [hd] at hne
      rw [show (a.put (some d) v).tmps.getD i undef = a.tmps.getD i undef from by simp [Act.put, Array.getElem?_setIfInBounds_ne (fun (e : d = i) => hne (by rw [e]))]]
      exact S.get i u hu
  intro f
  induction f with
  | zero =>
    intro listed a w hf inv S hZ hno hyes
    have hall := left_zero hf
    have get' : ∀ i, i < n + m + 1 → listed.getD i false = true := fun i hi => by
      have g3 := hall i hi
      have hs := inv.size
      have hlt : i < listed.size := by omega
      simp [hlt] at g3 ⊢
      exact g3
    have hl : listed = Array.replicate (n + m + 1) true ++ Array.replicate (ops.size - (n + m + 1)) false := by
      apply Array.ext
      · simp [inv.size]; omega
      · intro i g1 g2
        by_cases hi : i < n + m + 1
        · have g3 := hall i hi
          simp [g1] at g3
          simp [Array.getElem_append, hi, g3]
        · have g3 := inv.tail i (by omega) (by rw [← inv.size]; exact g1)
          simp [g1] at g3
          simp [Array.getElem_append, hi, g3]
    have hJ' : J a w := hyes (get' n (by omega))
    have SZ : Slots N Z a := ⟨S.size, S.defers, fun i v hv => by
      have : ∀ (Z' : List (Nat × Value)) (k : Nat), (∀ k' z, Z'[k']? = some z → Z[k + k']? = some z) → look i Z' = some v → ∃ (k' : Nat) (z : Nat × Value), Z[k']? = some z ∧ z.1 = i ∧ z.2 = v := by
        intro Z'
        induction Z' with
        | nil => intro k _ h; cases h
        | cons p r ih =>
          obtain ⟨q, u⟩ := p
          intro k hk h
          rw [look_cons] at h
          by_cases e : q = i
          · rw [if_pos e] at h; exact ⟨k, (q, u), by simpa using hk 0 _ rfl, e, Option.some.inj h⟩
          · rw [if_neg e] at h
            exact ih (k + 1) (fun k' z hz' => by have := hk (k' + 1) z (by simpa using hz'); rwa [show k + (k' + 1) = k + 1 + k' from by omega] at this) h
      obtain ⟨k', z, e1, e2, e3⟩ := this Z 0 (fun k' z h => by rw [Nat.zero_add]; exact h) hv
      have hk' : k' < m := by rw [← hZl]; exact (List.getElem?_eq_some_iff.1 e1).1
      have := hZ k' z e1 (get' _ (by omega))
      rw [← e2, ← e3]; exact this⟩
    subst hl
    have hlen' : rest.length = ops.size - (n + m + 1) := by rw [hrest]; simp
    have h := wpAny_of_seq (P := P) (ops := ops) (md := .any) (Q' := Q) rest (n + m + 1) (Array.replicate (n + m + 1) true ++ Array.replicate (ops.size - (n + m + 1)) false) a w (fun j => by rw [hrest, List.getElem?_drop, Array.getElem?_toList]) (by rw [hlen']; exact hseq) (fin a w hJ' SZ)
    rw [hlen'] at h
    rw [Nat.zero_add]
    exact h
  | succ f ih =>
    intro listed a w hf inv S hZ hno hyes
    rw [show f + 1 + (ops.size - (n + m + 1)) = (f + (ops.size - (n + m + 1))) + 1 from by omega]
    obtain ⟨j0, hj0n, hj0l, hj0min⟩ := left_pos (n := n + m + 1) (listed := listed) (by omega)
    have notready : ∀ i, i ∈ Region.ready .any ops listed → i < n + m + 1 := fun i hi => Nat.lt_of_not_le fun h => tail_waits hsink2 hchain hsz inv _ j0 rfl hj0n hj0l i h hi
    refine ⟨fun hr => ?_, fun i hi => ?_⟩
    · exfalso
      have hlow : ∀ i, i < j0 → listed.getD i false = true := fun i hi => by
        have g3 := hj0min i hi
        have hs := inv.size
        have hlt : i < listed.size := by omega
        simp [hlt] at g3 ⊢
        exact g3
      have hmem : j0 ∈ Region.ready .any ops listed := by
        have hlt : j0 < ops.size := by omega
        refine mem_ready.2 ⟨hj0l, ops[j0], Array.getElem?_eq_getElem hlt, fun e he hb => hlow _ ?_⟩
        rcases Nat.lt_trichotomy j0 n with g | g | g
        · have q1 := List.all_eq_true.1 h1 j0 (List.mem_range.2 g)
          rw [Array.getElem?_eq_getElem hlt] at q1
          simp only [Bool.and_eq_true] at q1
          have q2 := Array.all_eq_true_iff_forall_mem.1 q1.1 e he
          simpa [hb] using q2
        · subst g
          rw [Array.getElem?_eq_getElem hlt] at ht1e
          have q2 := Array.all_eq_true_iff_forall_mem.1 ht1e e he
          simpa [hb] using q2
        · obtain ⟨o2, z, e1, _, _, _, e4, _⟩ := zfact (j0 - (n + 1)) (by omega)
          rw [show n + 1 + (j0 - (n + 1)) = j0 from by omega, Array.getElem?_eq_getElem hlt] at e1
          obtain rfl := Option.some.inj e1
          have := (e4 e he hb).2
          omega
      rw [hr] at hmem; cases hmem
    · have hin := notready i hi
      obtain ⟨hil, o, ho, hall⟩ := mem_ready.1 hi
      have hil' := getD_both hil
      have hl' := left_set hin hil
      have inv' := inv.set hi hin
      have zkeep : ∀ {p : Oper} {v : Value} , ops[i]? = some p → (∀ k, i ≠ n + 1 + k) → ∀ k z, Z[k]? = some z → (listed.setIfInBounds i true).getD (n + 1 + k) false = true → (a.put p.dst v).tmps.getD z.1 undef = z.2 := fun {p v} hp hne k z hzk hl => by
        rw [getD_set_ne false (hne k)] at hl
        have hk' : k < m := by rw [← hZl]; exact (List.getElem?_eq_some_iff.1 hzk).1
        obtain ⟨o2, z2, _, e2, _, _, _, e5⟩ := zfact k hk'
        obtain rfl := Option.some.inj (hzk.symm.trans e2)
        obtain ⟨p2, e6, e7, _⟩ := e5 i hin
        obtain rfl := Option.some.inj (hp.symm.trans e6)
        have e8 := e7.resolve_left (hne k)
        have := hZ k z hzk hl
        cases hd : p.dst with
        | none => exact this
        | some d =>
          have : d ≠ z.1 := fun e => e8 (by rw [hd, e])
          rw [show (a.put (some d) v).tmps.getD z.1 undef = a.tmps.getD z.1 undef from by simp [Act.put, Array.getElem?_setIfInBounds_ne this]]
          assumption
      rcases Nat.lt_trichotomy i n with hlt | heq | hgt
      · -- a head
        have hn1 : listed.getD n false = false := by
          cases hc : listed.getD n false
          · rfl
          · have := listed_down hsink (fun j oj hoj h e he hb => by
              rcases h with h | h
              · exact inv.closed j oj hoj h e he hb
              · subst h; exact inv.closed j oj hoj hc e he hb) _ i rfl hlt
            rw [hil'] at this; cases this
        obtain ⟨hC, hI, hE⟩ := hno hn1
        obtain ⟨o', D, e1, e2, hst⟩ := step i hlt
        obtain rfl := Option.some.inj (ho.symm.trans e1)
        have hdep : ∀ D', (∀ d ∈ D', d ∈ D) → deps E a w D' := by
          intro D'
          induction D' with
          | nil => intro _; trivial
          | cons d r ihD =>
            intro hsub
            refine ⟨?_, ihD fun d hd => hsub d (List.mem_cons_of_mem _ hd)⟩
            have hget : ∀ (Ds : List (List Nat)) (k i : Nat), depsOk ops n k Ds = true → Ds[i]? = some D → ∃ o, ops[k + i]? = some o ∧ ∀ d ∈ D, d ∈ o.looksAt ops ∧ isHead ops n d = true := by
              intro Ds
              induction Ds with
              | nil => intro k i _ h; simp at h
              | cons D0 Ds ihh =>
                intro k i hk hi
                simp only [depsOk, Bool.and_eq_true] at hk
                cases i with
                | zero =>
                  obtain rfl : D0 = D := by simpa using hi
                  cases hp : ops[k]? with
                  | none => rw [hp] at hk; cases hk.1
                  | some p =>
                    rw [hp] at hk
                    refine ⟨p, rfl, fun d hd => ?_⟩
                    have := List.all_eq_true.1 hk.1 d hd
                    simpa [Bool.and_eq_true, List.contains_iff_mem] using this
                | succ i =>
                  obtain ⟨o, g1, g2⟩ := ihh (k + 1) i hk.2 (by simpa using hi)
                  exact ⟨o, by rw [show k + (i + 1) = k + 1 + i from by omega]; exact g1, g2⟩
            obtain ⟨o2, g1, g2⟩ := hget Ds 0 i h2 e2
            rw [Nat.zero_add, ho] at g1
            obtain rfl := Option.some.inj g1
            obtain ⟨g3, g4⟩ := g2 d (hsub d List.mem_cons_self)
            obtain ⟨k, p, g5, g6, g7⟩ := isHead_spec g4
            have q1 := List.all_eq_true.1 h1 i (List.mem_range.2 hlt)
            simp only [ho, Bool.and_eq_true] at q1
            have q2 := List.all_eq_true.1 q1.2 k (List.mem_range.2 g5)
            simp only [g6, g7, Bool.and_eq_true, Bool.or_eq_true, Bool.not_eq_true'] at q2
            rcases q2.2 with q3 | q3
            · rw [List.contains_eq_mem] at q3
              simp [g3] at q3
            · obtain ⟨e, he, hb⟩ := Array.any_eq_true'.1 q3
              simp only [Bool.and_eq_true, beq_iff_eq] at hb
              exact hE k g5 (by rw [← hb.2]; exact hall e he hb.1) p d g6 g7
        refine wpOp_mono ?_ (hst a w hC hI S (hdep D fun d hd => hd))
        rintro a' w2 ⟨⟨v, rfl, hd'⟩, hc, hi'⟩
        refine ih _ _ w2 (by omega) inv' (putL hin ho S) (zkeep ho (fun k => by omega)) (fun _ => ⟨hC.same hc, hi', fun k hk hkl p d hp hd => ?_⟩) fun hh => ?_
        · by_cases hki : k = i
          · subst hki
            obtain rfl := Option.some.inj (ho.symm.trans hp)
            obtain ⟨k1, k2⟩ := hd' d hd
            rw [hd, getD_put a d d v (by rw [S.size]; exact k1), if_pos rfl]
            exact k2
          · rw [getD_set_ne false (Ne.symm hki)] at hkl
            have g1 := lookE_st E d _ _ _ hc (hE k hk hkl p d hp hd)
            have hdist : o.dst ≠ some d := by
              have q1 := List.all_eq_true.1 h1 i (List.mem_range.2 hlt)
              simp only [ho, Bool.and_eq_true] at q1
              have q2 := List.all_eq_true.1 q1.2 k (List.mem_range.2 hk)
              simp only [hp, hd, Bool.and_eq_true, Bool.or_eq_true, beq_iff_eq, bne_iff_ne, Option.isNone_some, Bool.false_eq_true, or_false] at q2
              exact fun e => (q2.1.resolve_left hki) e.symm
            cases hod : o.dst with
            | none => exact g1
            | some d2 =>
              have : d2 ≠ d := fun e => hdist (by rw [hod, e])
              rw [show (a.put (some d2) v).tmps.getD d undef = a.tmps.getD d undef from by simp [Act.put, Array.getElem?_setIfInBounds_ne this]]
              exact g1
        · rw [getD_set_ne false (by omega), hn1] at hh; cases hh
      · -- what may not be moved
        subst heq
        obtain rfl := Option.some.inj (ht1.symm.trans ho)
        obtain ⟨hC, hI, hE⟩ := hno hil'
        have hdown := listed_down hsink (listed := listed) fun j oj hoj h e he hb => by
          rcases h with h | h
          · exact inv.closed j oj hoj h e he hb
          · subst h
            obtain rfl := Option.some.inj (ho.symm.trans hoj)
            exact hall e he hb
        have hde : ∀ outs', (∀ d ∈ outs', isHead ops i d = true) → deps E a w outs' := by
          intro outs'
          induction outs' with
          | nil => intro _; trivial
          | cons d r ihd =>
            intro h
            obtain ⟨k, p, g5, g6, g7⟩ := isHead_spec (h d List.mem_cons_self)
            exact ⟨hE k g5 (hdown _ k rfl g5) p d g6 g7, ihd fun d hd => h d (List.mem_cons_of_mem _ hd)⟩
        have hm := Oper.wp_put (main a w hC hI S (hde outs (List.all_eq_true.1 h4)))
        unfold wpOp
        rw [ho]
        simp only [Region.wanted, hg1, if_true]
        refine .inl (Oper.wp_mono ?_ hm)
        rintro a' w2 ⟨hJ2, v, hv⟩
        refine ih _ _ w2 (by omega) inv' (hJ _ _ hJ2) (fun k z hzk hl => ?_) (fun hh => ?_) fun _ => hJ2
        · rw [hv]; exact zkeep (v := v) ho (fun k => by omega) k z hzk hl
        · have hlt : i < listed.size := by rw [inv.size]; omega
          simp [hlt] at hh
      · -- an address
        obtain ⟨k, hk⟩ : ∃ k, i = n + 1 + k := ⟨i - (n + 1), by omega⟩
        subst hk
        have hkm : k < m := by omega
        obtain ⟨o2, z, e1, e2, e3, e4, _, e5⟩ := zfact k hkm
        obtain rfl := Option.some.inj (ho.symm.trans e1)
        obtain ⟨o3, z3, e6, e7, e8, e9⟩ := lzy k hkm
        obtain rfl := Option.some.inj (ho.symm.trans e6)
        obtain rfl := Option.some.inj (e2.symm.trans e7)
        unfold wpOp
        rw [ho]
        simp only [Region.wanted, e4, if_true]
        have hread : ∀ p ∈ R k, a.tmps.getD p.1 undef = p.2 := fun p hp => by
          cases hln : listed.getD n false with
          | true => exact hRJ a w (hyes hln) k hkm p hp
          | false =>
            obtain ⟨hC, hI, hE⟩ := hno hln
            obtain ⟨j, q, g1, g2, g3, ⟨o5, g4, e, he, hb, hon⟩, g5⟩ := hR k hkm p hp
            obtain rfl := Option.some.inj (ho.symm.trans g4)
            exact g5 _ w (hE j g1 (by rw [← hon]; exact hall e he hb) q p.1 g2 g3)
        refine .inl (op_val (e9 a w S hread) ?_)
        rw [e3]
        have hput : ∀ d, d ≠ z.1 → (a.put (some z.1) z.2).tmps.getD d undef = a.tmps.getD d undef := fun d hd => by simp [Act.put, Array.getElem?_setIfInBounds_ne (Ne.symm hd)]
        refine ih _ _ w (by omega) inv' (by have := putL (v := z.2) hin ho S; rwa [e3] at this) (fun k' z' hzk hl => ?_) (fun hh => ?_) fun hh => ?_
        · by_cases hkk : k = k'
          · subst hkk
            obtain rfl := Option.some.inj (e2.symm.trans hzk)
            rw [getD_put a z.1 z.1 z.2 (by rw [S.size]; exact e8), if_pos rfl]
          · rw [getD_set_ne false (by omega)] at hl
            have hk' : k' < m := by rw [← hZl]; exact (List.getElem?_eq_some_iff.1 hzk).1
            obtain ⟨o4, z4, f1, f2, f3, _, _, f5⟩ := zfact k' hk'
            obtain rfl := Option.some.inj (hzk.symm.trans f2)
            obtain ⟨p, f6, f7, _⟩ := f5 (n + 1 + k) hin
            obtain rfl := Option.some.inj (ho.symm.trans f6)
            have f8 := f7.resolve_left (by omega)
            rw [hput z'.1 (fun e => f8 (by rw [e3, e]))]
            exact hZ k' z' hzk hl
        · rw [getD_set_ne false (by omega)] at hh
          obtain ⟨hC, hI, hE⟩ := hno hh
          refine ⟨hC, hI, fun j hj hjl p d hp hd => ?_⟩
          rw [getD_set_ne false (by omega)] at hjl
          obtain ⟨p2, f6, f7, _⟩ := e5 j (by omega)
          obtain rfl := Option.some.inj (hp.symm.trans f6)
          have f8 := f7.resolve_left (by omega)
          rw [hput d (fun e => f8 (by rw [hd, e]))]
          exact hE j hj hjl p d hp hd
        · rw [getD_set_ne false (by omega)] at hh
          exact stay a w z.1 z.2 ⟨k, z, e2, rfl⟩ (hyes hh)
theorem wp_lazy2 {M : Nat → Prop} {id : Nat} {a₀ : Act} {w : World} {l : List Oper} {N : Nat} {L : List (Nat × Value)} (S : Slots N L a₀) (n m : Nat) (E : List (Nat × StP M)) (I : World → Prop) (Ds : List (List Nat)) (outs : List Nat) (Z : List (Nat × Value)) (t1 : Oper) (rest : List Oper) (J : Act → World → Prop)
    (ht1 : l[n]? = some t1) (hg1 : t1.guard = none) (hrest : rest = l.drop (n + m + 1)) (hm : P.follows .mixedOrders = true) (hok : (headOk l.toArray n && depsOk l.toArray n 0 Ds && keysOk l.toArray n L && outsOk l.toArray n outs && lazyOk2 l.toArray n m L Z) = true) (hlen : Ds.length = n) (hZ : Z.length = m) (hI : I { w with drawn := w.drawn + 1 })
    (step : steps P l.toArray Q N L w E I 0 (l.take n) Ds) (R : Nat → List (Nat × Value)) (lzy : ∀ k, k < m → ∃ (o : Oper) (z : Nat × Value), l.toArray[n + 1 + k]? = some o ∧ Z[k]? = some z ∧ z.1 < N ∧ ∀ a w, Slots N L a → (∀ p ∈ R k, a.tmps.getD p.1 undef = p.2) → (execOp a.eval o).run P w = .ok (.value z.2) w)
    (hR : ∀ k, k < m → ∀ p ∈ R k, ∃ j q, j < n ∧ l.toArray[j]? = some q ∧ q.dst = some p.1 ∧ (∃ o, l.toArray[n + 1 + k]? = some o ∧ ∃ e, e ∈ o.after ∧ Region.binds .any e = true ∧ e.on = j) ∧ ∀ u w, lookE E p.1 u w → u = p.2)
    (hRJ : ∀ a w, J a w → ∀ k, k < m → ∀ p ∈ R k, a.tmps.getD p.1 undef = p.2)
    (main : ∀ a w', Ch M w w' → I w' → Slots N L a → deps E a w' outs → t1.wp P a w' J Q)
    (stay : ∀ a w d v, (∃ (k : Nat) (z : Nat × Value), Z[k]? = some z ∧ z.1 = d) → J a w → J (a.put (some d) v) w) (hJ : ∀ a w, J a w → Slots N L a)
    (fin : ∀ a w, J a w → Slots N Z a → wpList P l.toArray Q rest a w) : (Code.region id l.toArray true).wp P Q a₀ w := by
  have hsz : n + m + 1 < l.length := by
    have h := hok
    simp only [Bool.and_eq_true, lazyOk2, decide_eq_true_eq] at h
    simpa using h.2.1.1.1.1.1.1.1.1
  refine wp_region_any hm ?_
  have inv0 : HeadInv .any l.toArray (n + m + 1) (Array.replicate l.toArray.size false) :=
    ⟨by simp, fun j oj _ hl => (by rw [getD_replicate_false] at hl; cases hl), fun t _ ht => getD_in (by simpa using ht) (getD_replicate_false _ _)⟩
  have hleft : left (n + m + 1) (Array.replicate l.toArray.size false) = n + m + 1 := by
    unfold left
    rw [List.filter_eq_self.2]
    · simp
    · intro j hj
      have := List.mem_range.1 hj
      rw [getD_in (by simp; omega) (getD_replicate_false _ _)]
      rfl
  have h := lazy_main2 (P := P) (Q := Q) (M := M) (ops := l.toArray) (n := n) (m := m) (N := N) (L := L) (Z := Z) (W := w) (E := E) (I := I) (Ds := Ds) (outs := outs) (J := J) (t1 := t1) (rest := rest) (by simpa using ht1) hg1 (by simpa using hrest) hok hlen
    (fun i hi => by
      obtain ⟨o, D, e1, e2, h⟩ := steps_get (l.take n) Ds 0 i (by omega) (by simp; omega) step
      rw [List.getElem?_take_of_lt hi] at e1
      rw [Nat.zero_add] at h
      exact ⟨o, D, by simpa using e1, e2, h⟩)
    lzy hR hRJ
    main stay hJ fin (n + m + 1) (Array.replicate l.toArray.size false) a₀ { w with drawn := w.drawn + 1 } hleft inv0 ⟨S.size, S.defers, S.get⟩
    (fun k z _ hl => by rw [getD_replicate_false] at hl; cases hl) (fun _ => ⟨(Ch.refl _).drew, hI, fun j _ hl => (by rw [getD_replicate_false] at hl; cases hl)⟩) (fun hl => by rw [getD_replicate_false] at hl; cases hl)
  rwa [show n + m + 1 + (l.toArray.size - (n + m + 1)) = l.toArray.size from by simp; omega] at h
end
theorem cat_app : ∀ (V L : List (Nat × Value)), cat V L = V ++ L
  | [], _ => rfl
  | p :: r, L => by rw [cat, cat_app r L]; rfl
theorem look_none {d : Nat} : ∀ (A : List (Nat × Value)), (∀ p ∈ A, p.1 ≠ d) → look d A = none
  | [], _ => rfl
  | (i, v) :: r, h => by
    rw [look_cons, if_neg (h _ List.mem_cons_self)]
    exact look_none r fun p hp => h p (List.mem_cons_of_mem _ hp)
section
variable {P : Program} {F : Nat → Prop} {w0 : World} {m0 : List BS} {n : Nat} {L : List (Nat × Value)} {fs : List RF} {os : List OF} {ty : TypeId} {pos : String} {af : Array Edge} {Q : Exit → Act → World → Prop}
/-- l[i], l[j] = ..: the second address is made beside the first store, in either order -/
theorem lzst {α : Type} {id : Nat} {a : Act} {w : World} {l : List Oper} {et t : TypeId} {ad : Option Addr} {cap ob bs : Nat} {xs : List α} {vs : List Value} {x y : Operand} (En : Enc α) (S : St F w0 m0 n L fs os a w) (N m : Nat) (E : List (Nat × Td (In []))) (Ds : List (List Nat)) (outs : List Nat) (Z : List (Nat × Value)) (rest : List Oper) (R : Nat → List (Nat × Value)) (j : Nat) (hj : nth os j = some (rwO En et bs ad cap xs)) (q : Nat) (x' : α)
    (step : HS P l.toArray Q F w0 w m0 n L fs os E 0 (l.take N) Ds)
    (lzy : ∀ k, k < m → ∃ (o : Oper) (z : Nat × Value), l.toArray[N + 1 + k]? = some o ∧ Z[k]? = some z ∧ z.1 < n ∧ ∀ a w, Slots n L a → (∀ p ∈ R k, a.tmps.getD p.1 undef = p.2) → (execOp a.eval o).run P w = .ok (.value z.2) w)
    (hR : ∀ k, k < m → ∀ p ∈ R k, ∃ j q, j < N ∧ l.toArray[j]? = some q ∧ q.dst = some p.1 ∧ (∃ o, l.toArray[N + 1 + k]? = some o ∧ ∃ e, e ∈ o.after ∧ Region.binds .any e = true ∧ e.on = j) ∧ ∀ u w, lookE (tq E) p.1 u w → u = p.2)
    (hRo : ∀ k, k < m → ∀ p ∈ R k, look p.1 (cat (vals E outs) L) = some p.2)
    (hx : evS (cat (vals E outs) L) x = some (.pointer (some ⟨blk ad, ob, none⟩))) (hy : evS (cat (vals E outs) L) y = some (.agg vs.toArray)) (hq : q < xs.length) (hvs : vs.length = En.n)
    (hw : ∀ {a w}, St F w0 m0 n (cat (vals E outs) L) fs os a w → En.wf (Fr F (ow os)) w.heap x') (hc : En.cells x' = vs) (hob : ob = q * En.n) (h1 : vs.all (·.oneCell') = true)
    (fin : ∀ a w, St F w0 m0 n (cat Z (cat (vals E outs) L)) fs (os.set j (rwO En et bs ad cap (xs.set q x'))) a w → wpList P l.toArray Q rest a w)
    (hz : (P.info? t).map (·.size) = some vs.length := by kernel_rfl)
    (ht1 : l[N]? = some ⟨none, .store t x y, ty, pos, af, none⟩ := by rfl) (hrest : rest = l.drop (N + m + 1) := by rfl) (hm : P.follows .mixedOrders = true := by exact mixed)
    (hok : (headOk l.toArray N && depsOk l.toArray N 0 Ds && keysOk l.toArray N L && outsOk l.toArray N outs && lazyOk2 l.toArray N m L Z) = true := by kernel_rfl) (hlen : Ds.length = N := by rfl) (hZ : Z.length = m := by rfl)
    (hzo : Z.all (fun z => (cat (vals E outs) L).all fun p => p.1 != z.1) = true := by kernel_rfl) (hVL : L.all (fun p => (vals E outs).all fun z => z.1 != p.1) = true := by kernel_rfl) : (Code.region id l.toArray true).wp P Q a w := by
  refine wp_lazy2 S.s N m (tq E) (Mm F w0 m0 fs os) Ds outs Z _ rest (fun a w => St F w0 m0 n (cat (vals E outs) L) fs (os.set j (rwO En et bs ad cap (xs.set q x'))) a w) ht1 rfl hrest hm hok hlen hZ S.m.drew (HS.steps _ _ _ step) R lzy hR (fun a w hJ k hk p hp => hJ.s.get _ _ (hRo k hk p hp)) ?_ ?_ ?_ ?_
  · intro a w' hc' hM s hd
    obtain ⟨k1, _⟩ := deps_open s outs hd
    exact strw_wp j hx hy hj q 0 hq (by omega) x' hw (by rw [hc, List.take_zero, List.nil_append, Nat.zero_add, List.drop_eq_nil_of_le (by rw [En.len]; omega), List.append_nil]) (by omega) h1 hz ⟨k1, hM⟩ fun a2 w2 S2 _ => S2
  · rintro a w d v ⟨k, zz, hz', rfl⟩ S'
    refine ⟨S'.s.put_ne (look_none _ fun p hp => ?_), S'.m⟩
    have q1 := List.all_eq_true.1 (List.all_eq_true.1 hzo _ (List.mem_of_getElem? hz')) p hp
    simpa using q1
  · intro a w S'
    refine ⟨S'.s.size, S'.s.defers, fun i v hv => S'.s.get i v ?_⟩
    have hin := List.all_eq_true.1 hVL _ (look_mem hv)
    rw [cat_app]
    have key : ∀ A : List (Nat × Value), (∀ p ∈ A, p.1 ≠ i) → look i (A ++ L) = some v := by
      intro A
      induction A with
      | nil => intro _; exact hv
      | cons p r ih =>
        intro h
        obtain ⟨d, u⟩ := p
        rw [List.cons_append, look_cons, if_neg (h _ List.mem_cons_self)]
        exact ih fun p hp => h p (List.mem_cons_of_mem _ hp)
    exact key _ fun p hp => by simpa using List.all_eq_true.1 hin p hp
  · intro a w S' SZ
    exact fin a w ⟨by rw [cat_app]; exact S'.s.both SZ, S'.m⟩
def rdOk (ops : Array Oper) (N : Nat) (R : List (Nat × Value)) : Bool := R.all fun p => (List.range N).any fun j => match ops[j]?, ops[N + 1]? with
  | some q, some o => q.dst == some p.1 && o.after.any fun e => Region.binds .any e && e.on == j
  | _, _ => false
theorem lzs1 {α : Type} {id : Nat} {a : Act} {w : World} {l : List Oper} {et t : TypeId} {ad : Option Addr} {cap ob bs : Nat} {xs : List α} {vs : List Value} {x y : Operand} {o1 : Oper} (En : Enc α) (S : St F w0 m0 n L fs os a w) (N : Nat) (E : List (Nat × Td (In []))) (Ds : List (List Nat)) (outs : List Nat) (d : Nat) (v : Value) (R : List (Nat × Value)) (j : Nat) (hj : nth os j = some (rwO En et bs ad cap xs)) (q : Nat) (x' : α)
    (step : HS P l.toArray Q F w0 w m0 n L fs os E 0 (l.take N) Ds)
    (lzy : ∀ (a : Act) (w : World), (∀ p ∈ R, a.tmps.getD p.1 undef = p.2) → (execOp a.eval o1).run P w = .ok (.value v) w)
    (hx : evS (cat (vals E outs) L) x = some (.pointer (some ⟨blk ad, ob, none⟩))) (hy : evS (cat (vals E outs) L) y = some (.agg vs.toArray)) (hq : q < xs.length) (hvs : vs.length = En.n)
    (hw : ∀ {a w}, St F w0 m0 n (cat (vals E outs) L) fs os a w → En.wf (Fr F (ow os)) w.heap x') (hc : En.cells x' = vs) (hob : ob = q * En.n) (h1 : vs.all (·.oneCell') = true) (hRt : ∀ p ∈ R, ∀ u w, lookE (tq E) p.1 u w → u = p.2) (hRo : R.map (fun p => look p.1 (cat (vals E outs) L)) = R.map fun p => some p.2)
    (fin : ∀ a w, St F w0 m0 n ((d, v) :: cat (vals E outs) L) fs (os.set j (rwO En et bs ad cap (xs.set q x'))) a w → wpList P l.toArray Q (l.drop (N + 2)) a w)
    (hz : (P.info? t).map (·.size) = some vs.length := by kernel_rfl)
    (ht1 : l[N]? = some ⟨none, .store t x y, ty, pos, af, none⟩ := by rfl) (ho1 : l[N + 1]? = some o1 := by rfl) (hd : d < n := by decide) (hm : P.follows .mixedOrders = true := by exact mixed) (hrd : rdOk l.toArray N R = true := by kernel_rfl)
    (hok : (headOk l.toArray N && depsOk l.toArray N 0 Ds && keysOk l.toArray N L && outsOk l.toArray N outs && lazyOk2 l.toArray N 1 L [(d, v)]) = true := by kernel_rfl) (hlen : Ds.length = N := by rfl)
    (hzo : (cat (vals E outs) L).all (fun p => p.1 != d) = true := by kernel_rfl) (hVL : L.all (fun p => (vals E outs).all fun z => z.1 != p.1) = true := by kernel_rfl) : (Code.region id l.toArray true).wp P Q a w := by
  have hone : ∀ k, k < 1 → k = 0 := fun k h => by omega
  refine lzst En S N 1 E Ds outs [(d, v)] (l.drop (N + 2)) (fun _ => R) j hj q x' step (fun k hk => ?_) (fun k hk p hp => ?_) (fun k hk p hp => ?_) hx hy hq hvs hw hc hob h1 (fun a w h => fin a w h) hz ht1 rfl hm hok hlen rfl (by simp only [List.all_cons, List.all_nil, Bool.and_true]; exact hzo) hVL
  · obtain rfl := hone k hk
    exact ⟨o1, (d, v), by simpa using ho1, rfl, hd, fun a w _ h => lzy a w h⟩
  · obtain rfl := hone k hk
    have h := List.all_eq_true.1 hrd p hp
    obtain ⟨i, hi, hi2⟩ := List.any_eq_true.1 h
    cases e1 : l.toArray[i]? with
    | none => rw [e1] at hi2; simp at hi2
    | some q1 =>
      cases e2 : l.toArray[N + 1]? with
      | none => rw [e1, e2] at hi2; simp at hi2
      | some o2 =>
        rw [e1, e2] at hi2
        simp only [Bool.and_eq_true, beq_iff_eq] at hi2
        obtain ⟨e, he, hb⟩ := Array.any_eq_true'.1 hi2.2
        simp only [Bool.and_eq_true, beq_iff_eq] at hb
        exact ⟨i, q1, List.mem_range.1 hi, by first | rfl | exact e1, hi2.1, ⟨o2, by first | rfl | exact e2, e, he, hb.1, hb.2⟩, hRt p hp⟩
  · have : ∀ (R : List (Nat × Value)), R.map (fun p => look p.1 (cat (vals E outs) L)) = R.map (fun p => some p.2) → ∀ p ∈ R, look p.1 (cat (vals E outs) L) = some p.2 := by
      intro R
      induction R with
      | nil => intro _ p hp; cases hp
      | cons r R ih =>
        intro h p hp
        simp only [List.map_cons, List.cons.injEq] at h
        rcases List.mem_cons.1 hp with e | e
        · rw [e]; exact h.1
        · exact ih h.2 p e
    exact this R hRo p hp
end
end Go.Proofs.Ytobggnpnochnnaa.V
/- A drawn region whose store stands amid heads, one of which may run behind it (a move that is read only later). -/
namespace Go.Proofs.Ytobggnpnochnnaa.V
open Go.RowKit
/-- heads 0..n-1, but for the one at z, which may also run behind n; n: what may not be moved; then a chain -/
def lazyOk3 (ops : Array Oper) (n z d : Nat) (L : List (Nat × Value)) : Bool :=
  decide (n + 1 < ops.size) && decide (z < n) && Region.sinkB .any ops (n + 1) && Region.chainB .any ops (n + 1) &&
  Region.seqB .any ops (ops.size - (n + 1)) (n + 1) (Array.replicate (n + 1) true ++ Array.replicate (ops.size - (n + 1)) false) &&
  L.all (fun p => (List.range (n + 1)).all fun j => match ops[j]? with | some q => q.dst != some p.1 | none => false) &&
  (match ops[n]? with | some o => o.after.all fun e => !Region.binds .any e || decide (e.on < n) | none => false) &&
  ((List.range n).all fun i => i == z || (List.range (n + 1)).any fun j => decide (i < j) && j != z && Region.waitsFor .any ops j i) &&
  (match ops[z]? with | some o => o.dst == some d && o.guard.isNone | none => false) &&
  (List.range (n + 1)).all fun j => j == z || match ops[j]? with | some p => p.dst != some d && !(p.looksAt ops).contains d | none => false
theorem listed_down3 {ops : Array Oper} {n z : Nat} {listed : Array Bool} (hs : ((List.range n).all fun i => i == z || (List.range (n + 1)).any fun j => decide (i < j) && j != z && Region.waitsFor .any ops j i) = true) (hcl : ∀ j oj, ops[j]? = some oj → listed.getD j false = true ∨ j = n → ∀ e ∈ oj.after, Region.binds .any e = true → listed.getD e.on false = true) : ∀ d i, n - i = d → i < n → i ≠ z → listed.getD i false = true := by
  intro d
  induction d using Nat.strongRecOn with
  | _ d ih =>
    intro i hd hi hz
    have h1 := List.all_eq_true.1 hs i (List.mem_range.2 hi)
    simp only [Bool.or_eq_true, beq_iff_eq] at h1
    obtain ⟨j, hj, hj2⟩ := List.any_eq_true.1 (h1.resolve_left hz)
    simp only [Bool.and_eq_true, decide_eq_true_eq, bne_iff_ne] at hj2
    obtain ⟨oj, hoj, e, he, hb, hon⟩ := Region.waitsFor_spec hj2.2
    have hjle : j ≤ n := by have := List.mem_range.1 hj; omega
    rw [← hon]
    refine hcl j oj hoj ?_ e he hb
    rcases Nat.lt_or_ge j n with g | g
    · exact .inl (ih (n - j) (by omega) j rfl g hj2.1.2)
    · exact .inr (by omega)
section
variable {P : Program} {Q : Exit → Act → World → Prop}
theorem lazy_main3 {M : Nat → Prop} {ops : Array Oper} {n N zp zd : Nat} {zv : Value} {L : List (Nat × Value)} {W : World} {E : List (Nat × StP M)} {I : World → Prop} {Ds : List (List Nat)} {outs : List Nat} {J : Act → World → Prop} {t1 : Oper} {rest : List Oper}
    (ht1 : ops[n]? = some t1) (hg1 : t1.guard = none) (hrest : rest = ops.toList.drop (n + 1))
    (hok : (headOk ops n && depsOk ops n 0 Ds && keysOk ops n L && outs.all (fun d => d != zd && isHead ops n d) && lazyOk3 ops n zp zd L) = true) (hlen : Ds.length = n)
    (step : ∀ i, i < n → i ≠ zp → ∃ o D, ops[i]? = some o ∧ Ds[i]? = some D ∧ ∀ a w, Ch M W w → I w → Slots N L a → deps E a w D → wpOp P ops Q i (Done o E I N a w) a w)
    (hzn : zd < N) (lzy : ∃ o, ops[zp]? = some o ∧ ∀ a w, Slots N L a → (execOp a.eval o).run P w = .ok (.value zv) w)
    (main : ∀ a w, Ch M W w → I w → Slots N L a → deps E a w outs → t1.wp P a w J Q)
    (stay : ∀ a w v, J a w → J (a.put (some zd) v) w) (hJ : ∀ a w, J a w → Slots N L a)
    (fin : ∀ a w, J a w → a.tmps.getD zd undef = zv → wpList P ops Q rest a w) :
    ∀ (f : Nat) (listed : Array Bool) (a : Act) (w : World), left (n + 1) listed = f → HeadInv .any ops (n + 1) listed → Slots N L a →
      (listed.getD zp false = true → a.tmps.getD zd undef = zv) →
      (listed.getD n false = false → Ch M W w ∧ I w ∧ ∀ j, j < n → j ≠ zp → listed.getD j false = true → ∀ o d, ops[j]? = some o → o.dst = some d → lookE E d (a.tmps.getD d undef) w) →
      (listed.getD n false = true → J a w) →
      wpAny P .any ops Q (f + (ops.size - (n + 1))) listed a w := by
  simp only [Bool.and_eq_true] at hok
  obtain ⟨⟨⟨⟨h1, h2⟩, h3⟩, h4⟩, h5⟩ := hok
  simp only [lazyOk3, Bool.and_eq_true, decide_eq_true_eq] at h5
  obtain ⟨⟨⟨⟨⟨⟨⟨⟨⟨hsz, hzn'⟩, hsink2⟩, hchain⟩, hseq⟩, hLk⟩, ht1e⟩, hsink⟩, hzo⟩, hz⟩ := h5
  obtain ⟨oz, hoz, lzy⟩ := lzy
  rw [hoz] at hzo
  simp only [Bool.and_eq_true, beq_iff_eq, Option.isNone_iff_eq_none] at hzo
  have zfact : ∀ j, j < n + 1 → j ≠ zp → ∃ p, ops[j]? = some p ∧ p.dst ≠ some zd ∧ zd ∉ p.looksAt ops := fun j hj hne => by
    have g := List.all_eq_true.1 hz j (List.mem_range.2 hj)
    simp only [Bool.or_eq_true, beq_iff_eq] at g
    have g2 := g.resolve_left hne
    cases hp : ops[j]? with
    | none => rw [hp] at g2; cases g2
    | some p =>
      rw [hp] at g2
      simp only [Bool.and_eq_true, bne_iff_ne, Bool.not_eq_true'] at g2
      exact ⟨p, rfl, g2.1, fun h => by have := g2.2; rw [List.contains_eq_mem] at this; simp [h] at this⟩
  -- no key of L is written
  have nokey : ∀ j, j < n + 1 → ∀ p, ops[j]? = some p → ∀ i v, look i L = some v → p.dst ≠ some i := fun j hj p hp i v hv => by
    have g := List.all_eq_true.1 hLk _ (look_mem hv)
    have g2 := List.all_eq_true.1 g j (List.mem_range.2 hj)
    rw [hp] at g2
    simpa using g2
  have putL : ∀ {j : Nat} {p : Oper} {a : Act} {v : Value}, j < n + 1 → ops[j]? = some p → Slots N L a → Slots N L (a.put p.dst v) := fun {j p a v} hj hp S => by
    cases hd : p.dst with
    | none => exact S
    | some d =>
      refine ⟨by simp [Act.put, S.size], S.defers, fun i u hu => ?_⟩
      have hne := nokey j hj p hp i u hu
      rw [hd] at hne
      rw [show (a.put (some d) v).tmps.getD i undef = a.tmps.getD i undef from by simp [Act.put, Array.getElem?_setIfInBounds_ne (fun (e : d = i) => hne (by rw [e]))]]
      exact S.get i u hu
  intro f
  induction f with
  | zero =>
    intro listed a w hf inv S hZ hno hyes
    have hall := left_zero hf
    have get' : ∀ i, i < n + 1 → listed.getD i false = true := fun i hi => by
      have g3 := hall i hi
      have hs := inv.size
      have hlt : i < listed.size := by omega
      simp [hlt] at g3 ⊢
      exact g3
    have hl : listed = Array.replicate (n + 1) true ++ Array.replicate (ops.size - (n + 1)) false := by
      apply Array.ext
      · simp [inv.size]; omega
      · intro i g1 g2
        by_cases hi : i < n + 1
        · have g3 := hall i hi
          simp [g1] at g3
          simp [Array.getElem_append, hi, g3]
        · have g3 := inv.tail i (by omega) (by rw [← inv.size]; exact g1)
          simp [g1] at g3
          simp [Array.getElem_append, hi, g3]
    have hJ' : J a w := hyes (get' n (by omega))
    have hzz := hZ (get' zp (by omega))
    subst hl
    have hlen' : rest.length = ops.size - (n + 1) := by rw [hrest]; simp
    have h := wpAny_of_seq (P := P) (ops := ops) (md := .any) (Q' := Q) rest (n + 1) (Array.replicate (n + 1) true ++ Array.replicate (ops.size - (n + 1)) false) a w (fun j => by rw [hrest, List.getElem?_drop, Array.getElem?_toList]) (by rw [hlen']; exact hseq) (fin a w hJ' hzz)
    rw [hlen'] at h
    rw [Nat.zero_add]
    exact h
  | succ f ih =>
    intro listed a w hf inv S hZ hno hyes
    rw [show f + 1 + (ops.size - (n + 1)) = (f + (ops.size - (n + 1))) + 1 from by omega]
    obtain ⟨j0, hj0n, hj0l, hj0min⟩ := left_pos (n := n + 1) (listed := listed) (by omega)
    have notready : ∀ i, i ∈ Region.ready .any ops listed → i < n + 1 := fun i hi => Nat.lt_of_not_le fun h => tail_waits hsink2 hchain hsz inv _ j0 rfl hj0n hj0l i h hi
    refine ⟨fun hr => ?_, fun i hi => ?_⟩
    · exfalso
      have hlow : ∀ i, i < j0 → listed.getD i false = true := fun i hi => by
        have g3 := hj0min i hi
        have hs := inv.size
        have hlt : i < listed.size := by omega
        simp [hlt] at g3 ⊢
        exact g3
      have hmem : j0 ∈ Region.ready .any ops listed := by
        have hlt : j0 < ops.size := by omega
        refine mem_ready.2 ⟨hj0l, ops[j0], Array.getElem?_eq_getElem hlt, fun e he hb => hlow _ ?_⟩
        rcases Nat.lt_trichotomy j0 n with g | g | g
        · have q1 := List.all_eq_true.1 h1 j0 (List.mem_range.2 g)
          rw [Array.getElem?_eq_getElem hlt] at q1
          simp only [Bool.and_eq_true] at q1
          have q2 := Array.all_eq_true_iff_forall_mem.1 q1.1 e he
          simpa [hb] using q2
        · subst g
          rw [Array.getElem?_eq_getElem hlt] at ht1e
          have q2 := Array.all_eq_true_iff_forall_mem.1 ht1e e he
          simpa [hb] using q2
        · omega
      rw [hr] at hmem; cases hmem
    · have hin := notready i hi
      obtain ⟨hil, o, ho, hall⟩ := mem_ready.1 hi
      have hil' := getD_both hil
      have hl' := left_set hin hil
      have inv' := inv.set hi hin
      have zkeep : ∀ {p : Oper} {v : Value}, ops[i]? = some p → i ≠ zp → (listed.setIfInBounds i true).getD zp false = true → (a.put p.dst v).tmps.getD zd undef = zv := fun {p v} hp hne hl => by
        rw [getD_set_ne false hne] at hl
        obtain ⟨p2, e6, e7, _⟩ := zfact i hin hne
        obtain rfl := Option.some.inj (hp.symm.trans e6)
        have := hZ hl
        cases hd : p.dst with
        | none => exact this
        | some d =>
          have : d ≠ zd := fun e => e7 (by rw [hd, e])
          rw [show (a.put (some d) v).tmps.getD zd undef = a.tmps.getD zd undef from by simp [Act.put, Array.getElem?_setIfInBounds_ne this]]
          assumption
      by_cases hizp : i = zp
      · -- the lazy one
        subst hizp
        obtain rfl := Option.some.inj (ho.symm.trans hoz)
        unfold wpOp
        rw [ho]
        simp only [Region.wanted, hzo.2, if_true]
        refine .inl (op_val (lzy a w S) ?_)
        rw [hzo.1]
        have hput : ∀ d, d ≠ zd → (a.put (some zd) zv).tmps.getD d undef = a.tmps.getD d undef := fun d hd => by simp [Act.put, Array.getElem?_setIfInBounds_ne (Ne.symm hd)]
        refine ih _ _ w (by omega) inv' (by have := putL (v := zv) hin ho S; rwa [hzo.1] at this) (fun hl => ?_) (fun hh => ?_) fun hh => ?_
        · rw [getD_put a zd zd zv (by rw [S.size]; exact hzn), if_pos rfl]
        · rw [getD_set_ne false (by omega)] at hh
          obtain ⟨hC, hI, hE⟩ := hno hh
          refine ⟨hC, hI, fun j hj hjz hjl p d hp hd => ?_⟩
          rw [getD_set_ne false (Ne.symm hjz)] at hjl
          obtain ⟨p2, f6, f7, _⟩ := zfact j (by omega) hjz
          obtain rfl := Option.some.inj (hp.symm.trans f6)
          rw [hput d (fun e => f7 (by rw [hd, e]))]
          exact hE j hj hjz hjl p d hp hd
        · rw [getD_set_ne false (by omega)] at hh
          exact stay a w zv (hyes hh)
      rcases Nat.lt_trichotomy i n with hlt | heq | hgt
      · -- a head
        have hn1 : listed.getD n false = false := by
          cases hc : listed.getD n false
          · rfl
          · have := listed_down3 hsink (fun j oj hoj h e he hb => by
              rcases h with h | h
              · exact inv.closed j oj hoj h e he hb
              · subst h; exact inv.closed j oj hoj hc e he hb) _ i rfl hlt hizp
            rw [hil'] at this; cases this
        obtain ⟨hC, hI, hE⟩ := hno hn1
        obtain ⟨o', D, e1, e2, hst⟩ := step i hlt hizp
        obtain rfl := Option.some.inj (ho.symm.trans e1)
        have hdep : ∀ D', (∀ d ∈ D', d ∈ D) → deps E a w D' := by
          intro D'
          induction D' with
          | nil => intro _; trivial
          | cons d r ihD =>
            intro hsub
            refine ⟨?_, ihD fun d hd => hsub d (List.mem_cons_of_mem _ hd)⟩
            have hget : ∀ (Ds : List (List Nat)) (k i : Nat), depsOk ops n k Ds = true → Ds[i]? = some D → ∃ o, ops[k + i]? = some o ∧ ∀ d ∈ D, d ∈ o.looksAt ops ∧ isHead ops n d = true := by
              intro Ds
              induction Ds with
              | nil => intro k i _ h; simp at h
              | cons D0 Ds ihh =>
                intro k i hk hi
                simp only [depsOk, Bool.and_eq_true] at hk
                cases i with
                | zero =>
                  obtain rfl : D0 = D := by simpa using hi
                  cases hp : ops[k]? with
                  | none => rw [hp] at hk; cases hk.1
                  | some p =>
                    rw [hp] at hk
                    refine ⟨p, rfl, fun d hd => ?_⟩
                    have := List.all_eq_true.1 hk.1 d hd
                    simpa [Bool.and_eq_true, List.contains_iff_mem] using this
                | succ i =>
                  obtain ⟨o, g1, g2⟩ := ihh (k + 1) i hk.2 (by simpa using hi)
                  exact ⟨o, by rw [show k + (i + 1) = k + 1 + i from by omega]; exact g1, g2⟩
            obtain ⟨o2, g1, g2⟩ := hget Ds 0 i h2 e2
            rw [Nat.zero_add, ho] at g1
            obtain rfl := Option.some.inj g1
            obtain ⟨g3, g4⟩ := g2 d (hsub d List.mem_cons_self)
            obtain ⟨k, p, g5, g6, g7⟩ := isHead_spec g4
            have q1 := List.all_eq_true.1 h1 i (List.mem_range.2 hlt)
            simp only [ho, Bool.and_eq_true] at q1
            have q2 := List.all_eq_true.1 q1.2 k (List.mem_range.2 g5)
            simp only [g6, g7, Bool.and_eq_true, Bool.or_eq_true, Bool.not_eq_true'] at q2
            rcases q2.2 with q3 | q3
            · rw [List.contains_eq_mem] at q3
              simp [g3] at q3
            · obtain ⟨e, he, hb⟩ := Array.any_eq_true'.1 q3
              simp only [Bool.and_eq_true, beq_iff_eq] at hb
              refine hE k g5 (fun hkz => ?_) (by rw [← hb.2]; exact hall e he hb.1) p d g6 g7
              rw [hkz, hoz] at g6
              obtain rfl := Option.some.inj g6
              obtain rfl := Option.some.inj (hzo.1.symm.trans g7)
              obtain ⟨p2, f6, _, f8⟩ := zfact i hin hizp
              obtain rfl := Option.some.inj (ho.symm.trans f6)
              exact f8 g3
        refine wpOp_mono ?_ (hst a w hC hI S (hdep D fun d hd => hd))
        rintro a' w2 ⟨⟨v, rfl, hd'⟩, hc, hi'⟩
        refine ih _ _ w2 (by omega) inv' (putL hin ho S) (zkeep ho hizp) (fun _ => ⟨hC.same hc, hi', fun k hk hkz hkl p d hp hd => ?_⟩) fun hh => ?_
        · by_cases hki : k = i
          · subst hki
            obtain rfl := Option.some.inj (ho.symm.trans hp)
            obtain ⟨k1, k2⟩ := hd' d hd
            rw [hd, getD_put a d d v (by rw [S.size]; exact k1), if_pos rfl]
            exact k2
          · rw [getD_set_ne false (Ne.symm hki)] at hkl
            have g1 := lookE_st E d _ _ _ hc (hE k hk hkz hkl p d hp hd)
            have hdist : o.dst ≠ some d := by
              have q1 := List.all_eq_true.1 h1 i (List.mem_range.2 hlt)
              simp only [ho, Bool.and_eq_true] at q1
              have q2 := List.all_eq_true.1 q1.2 k (List.mem_range.2 hk)
              simp only [hp, hd, Bool.and_eq_true, Bool.or_eq_true, beq_iff_eq, bne_iff_ne, Option.isNone_some, Bool.false_eq_true, or_false] at q2
              exact fun e => (q2.1.resolve_left hki) e.symm
            cases hod : o.dst with
            | none => exact g1
            | some d2 =>
              have : d2 ≠ d := fun e => hdist (by rw [hod, e])
              rw [show (a.put (some d2) v).tmps.getD d undef = a.tmps.getD d undef from by simp [Act.put, Array.getElem?_setIfInBounds_ne this]]
              exact g1
        · rw [getD_set_ne false (by omega), hn1] at hh; cases hh
      · -- what may not be moved
        subst heq
        obtain rfl := Option.some.inj (ht1.symm.trans ho)
        obtain ⟨hC, hI, hE⟩ := hno hil'
        have hdown := listed_down3 hsink (listed := listed) fun j oj hoj h e he hb => by
          rcases h with h | h
          · exact inv.closed j oj hoj h e he hb
          · subst h
            obtain rfl := Option.some.inj (ho.symm.trans hoj)
            exact hall e he hb
        have hde : ∀ outs', (∀ d ∈ outs', (d != zd && isHead ops i d) = true) → deps E a w outs' := by
          intro outs'
          induction outs' with
          | nil => intro _; trivial
          | cons d r ihd =>
            intro h
            have hh := h d List.mem_cons_self
            simp only [Bool.and_eq_true, bne_iff_ne] at hh
            obtain ⟨k, p, g5, g6, g7⟩ := isHead_spec hh.2
            have hkz : k ≠ zp := fun e => by
              rw [e, hoz] at g6
              obtain rfl := Option.some.inj g6
              exact hh.1 (Option.some.inj (g7.symm.trans hzo.1))
            exact ⟨hE k g5 hkz (hdown _ k rfl g5 hkz) p d g6 g7, ihd fun d hd => h d (List.mem_cons_of_mem _ hd)⟩
        have hm := Oper.wp_put (main a w hC hI S (hde outs (List.all_eq_true.1 h4)))
        unfold wpOp
        rw [ho]
        simp only [Region.wanted, hg1, if_true]
        refine .inl (Oper.wp_mono ?_ hm)
        rintro a' w2 ⟨hJ2, v, hv⟩
        refine ih _ _ w2 (by omega) inv' (hJ _ _ hJ2) (fun hl => ?_) (fun hh => ?_) fun _ => hJ2
        · rw [hv]; exact zkeep (v := v) ho hizp hl
        · have hlt : i < listed.size := by rw [inv.size]; omega
          simp [hlt] at hh
      · omega
theorem wp_lazy3 {M : Nat → Prop} {id : Nat} {a₀ : Act} {w : World} {l : List Oper} {N : Nat} {L : List (Nat × Value)} (S : Slots N L a₀) (n zp zd : Nat) (zv : Value) (E : List (Nat × StP M)) (I : World → Prop) (Ds : List (List Nat)) (outs : List Nat) (t1 : Oper) (rest : List Oper) (J : Act → World → Prop)
    (ht1 : l[n]? = some t1) (hg1 : t1.guard = none) (hrest : rest = l.drop (n + 1)) (hm : P.follows .mixedOrders = true) (hok : (headOk l.toArray n && depsOk l.toArray n 0 Ds && keysOk l.toArray n L && outs.all (fun d => d != zd && isHead l.toArray n d) && lazyOk3 l.toArray n zp zd L) = true) (hlen : Ds.length = n) (hI : I { w with drawn := w.drawn + 1 })
    (step : steps P l.toArray Q N L w E I 0 (l.take n) Ds) (hzn : zd < N) (lzy : ∃ o, l.toArray[zp]? = some o ∧ ∀ a w, Slots N L a → (execOp a.eval o).run P w = .ok (.value zv) w)
    (main : ∀ a w', Ch M w w' → I w' → Slots N L a → deps E a w' outs → t1.wp P a w' J Q)
    (stay : ∀ a w v, J a w → J (a.put (some zd) v) w) (hJ : ∀ a w, J a w → Slots N L a)
    (fin : ∀ a w, J a w → a.tmps.getD zd undef = zv → wpList P l.toArray Q rest a w) : (Code.region id l.toArray true).wp P Q a₀ w := by
  have hsz : n + 1 < l.length := by
    have h := hok
    simp only [Bool.and_eq_true, lazyOk3, decide_eq_true_eq] at h
    simpa using h.2.1.1.1.1.1.1.1.1.1
  refine wp_region_any hm ?_
  have inv0 : HeadInv .any l.toArray (n + 1) (Array.replicate l.toArray.size false) :=
    ⟨by simp, fun j oj _ hl => (by rw [getD_replicate_false] at hl; cases hl), fun t _ ht => getD_in (by simpa using ht) (getD_replicate_false _ _)⟩
  have hleft : left (n + 1) (Array.replicate l.toArray.size false) = n + 1 := by
    unfold left
    rw [List.filter_eq_self.2]
    · simp
    · intro j hj
      have := List.mem_range.1 hj
      rw [getD_in (by simp; omega) (getD_replicate_false _ _)]
      rfl
  have h := lazy_main3 (P := P) (Q := Q) (M := M) (ops := l.toArray) (n := n) (N := N) (zp := zp) (zd := zd) (zv := zv) (L := L) (W := w) (E := E) (I := I) (Ds := Ds) (outs := outs) (J := J) (t1 := t1) (rest := rest) (by simpa using ht1) hg1 (by simpa using hrest) hok hlen
    (fun i hi _ => by
      obtain ⟨o, D, e1, e2, h⟩ := steps_get (l.take n) Ds 0 i (by omega) (by simp; omega) step
      rw [List.getElem?_take_of_lt hi] at e1
      rw [Nat.zero_add] at h
      exact ⟨o, D, by simpa using e1, e2, h⟩)
    hzn lzy
    main stay hJ fin (n + 1) (Array.replicate l.toArray.size false) a₀ { w with drawn := w.drawn + 1 } hleft inv0 ⟨S.size, S.defers, S.get⟩
    (fun hl => by rw [getD_replicate_false] at hl; cases hl) (fun _ => ⟨(Ch.refl _).drew, hI, fun j _ _ hl => (by rw [getD_replicate_false] at hl; cases hl)⟩) (fun hl => by rw [getD_replicate_false] at hl; cases hl)
  rwa [show n + 1 + (l.toArray.size - (n + 1)) = l.toArray.size from by simp; omega] at h
end
section
variable {P : Program} {F : Nat → Prop} {w0 : World} {m0 : List BS} {n : Nat} {L : List (Nat × Value)} {fs : List RF} {os : List OF} {ty : TypeId} {pos : String} {af : Array Edge} {Q : Exit → Act → World → Prop}
/-- l[i], l[j] = ..: the index of the second store may be read behind the first one -/
theorem lz3 {α : Type} {id : Nat} {a : Act} {w : World} {l : List Oper} {et t : TypeId} {ad : Option Addr} {cap ob bs : Nat} {xs : List α} {vs : List Value} {x y : Operand} {oz : Oper} (En : Enc α) (S : St F w0 m0 n L fs os a w) (N zp zd : Nat) (zv : Value) (E : List (Nat × Td (In []))) (Ds : List (List Nat)) (outs : List Nat) (j : Nat) (q : Nat) (x' : α) (hj : nth os j = some (rwO En et bs ad cap xs))
    (step : HS P l.toArray Q F w0 w m0 n L fs os E 0 (l.take N) Ds)
    (lzy : ∀ (a : Act) (w : World), Slots n L a → (execOp a.eval oz).run P w = .ok (.value zv) w)
    (hx : evS (cat (vals E outs) L) x = some (.pointer (some ⟨blk ad, ob, none⟩))) (hy : evS (cat (vals E outs) L) y = some (.agg vs.toArray)) (hq : q < xs.length) (hvs : vs.length = En.n)
    (hw : ∀ {a w}, St F w0 m0 n (cat (vals E outs) L) fs os a w → En.wf (Fr F (ow os)) w.heap x') (hc : En.cells x' = vs) (hob : ob = q * En.n) (h1 : vs.all (·.oneCell') = true)
    (fin : ∀ a w, St F w0 m0 n ((zd, zv) :: cat (vals E outs) L) fs (os.set j (rwO En et bs ad cap (xs.set q x'))) a w → wpList P l.toArray Q (l.drop (N + 1)) a w)
    (hz : (P.info? t).map (·.size) = some vs.length := by kernel_rfl)
    (ht1 : l[N]? = some ⟨none, .store t x y, ty, pos, af, none⟩ := by rfl) (hoz : l[zp]? = some oz := by rfl) (hd : zd < n := by decide) (hm : P.follows .mixedOrders = true := by exact mixed)
    (hok : (headOk l.toArray N && depsOk l.toArray N 0 Ds && keysOk l.toArray N L && outs.all (fun d => d != zd && isHead l.toArray N d) && lazyOk3 l.toArray N zp zd L) = true := by kernel_rfl) (hlen : Ds.length = N := by rfl)
    (hzo : (cat (vals E outs) L).all (fun p => p.1 != zd) = true := by kernel_rfl) (hVL : L.all (fun p => (vals E outs).all fun z => z.1 != p.1) = true := by kernel_rfl) : (Code.region id l.toArray true).wp P Q a w := by
  have hln : look zd (cat (vals E outs) L) = none := look_none _ fun p hp => by simpa using List.all_eq_true.1 hzo p hp
  refine wp_lazy3 S.s N zp zd zv (tq E) (Mm F w0 m0 fs os) Ds outs _ _ (fun a w => St F w0 m0 n (cat (vals E outs) L) fs (os.set j (rwO En et bs ad cap (xs.set q x'))) a w) ht1 rfl rfl hm hok hlen S.m.drew (HS.steps _ _ _ step) hd ⟨oz, by simpa using hoz, lzy⟩ ?_ ?_ ?_ ?_
  · intro a w' hc' hM s hd
    obtain ⟨k1, _⟩ := deps_open s outs hd
    exact strw_wp j hx hy hj q 0 hq (by omega) x' hw (by rw [hc, List.take_zero, List.nil_append, Nat.zero_add, List.drop_eq_nil_of_le (by rw [En.len]; omega), List.append_nil]) (by omega) h1 hz ⟨k1, hM⟩ fun a2 w2 S2 _ => S2
  · intro a w v S'
    exact ⟨S'.s.put_ne hln, S'.m⟩
  · intro a w S'
    refine ⟨S'.s.size, S'.s.defers, fun i v hv => S'.s.get i v ?_⟩
    have hin := List.all_eq_true.1 hVL _ (look_mem hv)
    rw [cat_app]
    have key : ∀ A : List (Nat × Value), (∀ p ∈ A, p.1 ≠ i) → look i (A ++ L) = some v := by
      intro A
      induction A with
      | nil => intro _; exact hv
      | cons p r ih =>
        intro h
        obtain ⟨d, u⟩ := p
        rw [List.cons_append, look_cons, if_neg (h _ List.mem_cons_self)]
        exact ih fun p hp => h p (List.mem_cons_of_mem _ hp)
    exact key _ fun p hp => by simpa using List.all_eq_true.1 hin p hp
  · intro a w S' hzv
    refine fin a w ⟨⟨S'.s.size, S'.s.defers, fun i u hu => ?_⟩, S'.m⟩
    rw [look_cons] at hu
    by_cases e : zd = i
    · rw [if_pos e] at hu
      rw [← e, hzv]
      exact Option.some.inj hu
    · rw [if_neg e] at hu
      exact S'.s.get i u hu
/-- s.l = append(s.l, ..): the address of s may be read behind the append -/
theorem lza3 {α : Type} {id : Nat} {a : Act} {w : World} {l : List Oper} {d : Nat} {t ts : TypeId} {ad : Option Addr} {cap bs : Nat} {xs : List α} {z : Value} {bytes : Nat} {s x : Operand} {oz : Oper} (En : Enc α) (γ : Type) (S : St F w0 m0 n L fs os a w) (N zp zd : Nat) (zv : Value) (chg : List BS) (E : List (Nat × Td (In chg))) (Ds : List (List Nat)) (outs : List Nat) (j : Nat) (hj : nth os j = some (rwO En t bs ad cap xs))
    (V : γ → List (Nat × Value)) (R : γ → Prop) (ys : γ → List α) (step : HS P l.toArray Q F w0 w m0 n L fs os E 0 (l.take N) Ds) (lzy : ∀ (a : Act) (w : World), Slots n L a → (execOp a.eval oz).run P w = .ok (.value zv) w)
    (main : ∀ a w', St F w0 m0 n (cat (vals E outs) L) fs os a w' → Ch (In chg) w w' → pdeps E a w' outs → ∃ (g : γ) (sa : Option Addr) (sc : Nat) (D : Nat → Prop), Slots n (cat (V g) L) a ∧ R g ∧ evS (cat (V g) L) s = some (.slice ad xs.length cap) ∧ evS (cat (V g) L) x = some (.slice sa (ys g).length sc) ∧ LAt En D w'.heap sa (ys g) ∧ (sa = none → sc = 0) ∧ (∀ y ∈ ys g, En.wf (Fr F (ow os)) w'.heap y) ∧ (xs.length + (ys g).length ≤ maxLen ∧ (xs.length + (ys g).length) * bytes ≤ 140737488355328))
    (fin : ∀ g ad' cap' a w, St F w0 m0 n ((zd, zv) :: (d, .slice ad' (xs ++ ys g).length cap') :: cat (V g) L) fs (os.set j (rwO En t bs ad' cap' (xs ++ ys g))) a w → R g → wpList P l.toArray Q (l.drop (N + 1)) a w)
    (ht : P.underlying ts = some (.slice t)) (hz : (P.info? t).map (fun i => (i.zero, i.size, i.bytes)) = some (some z, En.n, bytes)) (hzz : z.cells.size = En.n ∧ 0 < En.n := by exact ⟨rfl, by decide⟩) (ht1 : l[N]? = some ⟨some d, .call ⟨.builtin .append, #[s, x], #[ts, ts]⟩, ty, pos, af, none⟩ := by rfl) (hoz : l[zp]? = some oz := by rfl) (hm : P.follows .mixedOrders = true := by exact mixed)
    (hok : (headOk l.toArray N && depsOk l.toArray N 0 Ds && keysOk l.toArray N L && outs.all (fun d => d != zd && isHead l.toArray N d) && lazyOk3 l.toArray N zp zd L) = true := by kernel_rfl) (hlen : Ds.length = N := by rfl) (hV : ∀ g, (V g).map (·.1) = outs := by intro _; rfl) (hzo : (zd != d && !outs.contains zd) = true := by kernel_rfl) (hzl : (L.all fun p => p.1 != zd) = true := by kernel_rfl) (hzn : zd < n := by decide) (hdn : d < n := by decide) (hdo : outs.contains d = false := by kernel_rfl) (hbs : bs ≤ w0.heap.size := by first | exact Nat.le_refl _ | exact Nat.zero_le _ | assumption) : (Code.region id l.toArray true).wp P Q a w := by
  have e1 := rowSplit hj
  simp only [Bool.and_eq_true, bne_iff_ne, Bool.not_eq_true'] at hzo
  have hln : ∀ g u, look zd ((d, u) :: cat (V g) L) = none := fun g u => by
    rw [look_cons, if_neg (fun e => hzo.1 e.symm)]
    refine look_none _ fun p hp e => ?_
    rw [cat_app] at hp
    rcases List.mem_append.1 hp with hp | hp
    · have : p.1 ∈ outs := by rw [← hV g]; exact List.mem_map_of_mem hp
      rw [e] at this
      have q3 := hzo.2
      rw [List.contains_iff_mem.2 this] at q3; cases q3
    · have := List.all_eq_true.1 hzl p hp
      simp [e] at this
  refine wp_lazy3 S.s N zp zd zv (tq E) (Mm F w0 m0 fs os) Ds outs _ _ (fun a w => ∃ g ad' cap', St F w0 m0 n ((d, .slice ad' (xs ++ ys g).length cap') :: cat (V g) L) fs (os.set j (rwO En t bs ad' cap' (xs ++ ys g))) a w ∧ R g) ht1 rfl rfl hm hok hlen S.m.drew (HS.steps _ _ _ step) hzn ⟨oz, by simpa using hoz, lzy⟩ ?_ ?_ ?_ ?_
  · intro a w' hc hM s hd
    obtain ⟨h1, h2⟩ := deps_open s outs hd
    obtain ⟨g, sa, sc, D, k1, k2, k3, k4, k5, k6, k7, k8⟩ := main a w' ⟨h1, hM⟩ hc h2
    refine op_append (E := En) ((ow os).take j) ((ow os).drop (j + 1)) _ _ ts rfl z bytes ht hz hzz.1 hzz.2 (rowSplit hj) hM.c.ms (k1.eval k3) (St.row ⟨k1, hM⟩ j hj) (ys g) sa sc (k1.eval k4) k5 k6 k7 k8.1 k8.2 (Nat.le_trans hbs hM.c.size) fun ad' cap' w2 Rw T gg => ?_
    have e2 := ow_setx (g := rwO En t bs ad' cap' (xs ++ ys g)) hj
    have T' : Tr (ow os) w' (ow (os.set j (rwO En t bs ad' cap' (xs ++ ys g)))) w2 := by
      rw [e2]; conv => arg 1; rw [e1]
      exact T
    exact ⟨g, ad', cap', ⟨k1.put hdn, hM.sw j hj _ T' gg (by rw [e2]; exact ⟨Rw.own, Rw.wf⟩)⟩, k2⟩
  · rintro a w v ⟨g, ad', cap', S', hR⟩
    exact ⟨g, ad', cap', ⟨S'.s.put_ne (hln g _), S'.m⟩, hR⟩
  · rintro a w ⟨g, ad', cap', S', _⟩
    refine ⟨S'.s.size, S'.s.defers, fun i v hv => S'.s.get i v ?_⟩
    have hok' := hok
    simp only [Bool.and_eq_true] at hok'
    have hlz := hok'.2
    simp only [lazyOk3, Bool.and_eq_true] at hlz
    have hLk := hlz.1.1.1.1.2
    have hne : d ≠ i := fun e => by
      have q := List.all_eq_true.1 hLk _ (look_mem hv)
      have q2 := List.all_eq_true.1 q N (List.mem_range.2 (by omega))
      rw [show l.toArray[N]? = l[N]? from by simp, ht1] at q2
      simp [e] at q2
    rw [look_cons, if_neg hne, cat_app]
    have : ∀ (A : List (Nat × Value)), (∀ p ∈ A, p.1 ≠ i) → look i (A ++ L) = look i L := by
      intro A
      induction A with
      | nil => intro _; rfl
      | cons p r ih =>
        intro h; obtain ⟨i', v'⟩ := p
        rw [List.cons_append, look_cons, if_neg (h _ List.mem_cons_self)]
        exact ih fun p hp => h p (List.mem_cons_of_mem _ hp)
    rw [this _ ?_]; exact hv
    intro p hp e
    have hin : i ∈ outs := by rw [← hV g, ← e]; exact List.mem_map_of_mem hp
    have hk := List.all_eq_true.1 hok'.1.1.2 _ (look_mem hv)
    have ho := List.all_eq_true.1 hok'.1.2 _ hin
    simp only [Bool.not_eq_true', Bool.and_eq_true] at hk ho
    rw [ho.2] at hk; cases hk
  · rintro a w ⟨g, ad', cap', S', hR⟩ hzv
    refine fin g ad' cap' a w ⟨⟨S'.s.size, S'.s.defers, fun i u hu => ?_⟩, S'.m⟩ hR
    rw [look_cons] at hu
    by_cases e : zd = i
    · rw [if_pos e] at hu
      rw [← e, hzv]
      exact Option.some.inj hu
    · rw [if_neg e] at hu
      exact S'.s.get i u hu
end
theorem flat_take {α : Type} (E : Enc α) : ∀ (xs : List α) (k : Nat), (xs.take k).flatMap E.cells = (xs.flatMap E.cells).take (k * E.n)
  | [], k => by simp
  | x :: xs, 0 => by simp
  | x :: xs, k + 1 => by
    rw [List.take_succ_cons, List.flatMap_cons, flat_take E xs k, List.flatMap_cons, List.take_append, E.len, List.take_of_length_le (l := E.cells x) (by rw [E.len, Nat.add_mul]; omega), show (k + 1) * E.n - E.n = k * E.n from by rw [Nat.add_mul]; omega]
theorem Row.tk {α : Type} {E : Enc α} {t : TypeId} {bs : Nat} {F : Nat → Prop} {ms : List BS} {w : World} {ad : Option Addr} {cap : Nat} {xs : List α} (R : Row E t bs F ms w ad cap xs) (k : Nat) (hk : k ≤ xs.length) : Row E t bs F ms w ad cap (xs.take k) := by
  have hl : (xs.take k).length = k := by rw [List.length_take]; omega
  have hm : k * E.n ≤ xs.length * E.n := Nat.mul_le_mul_right _ hk
  refine ⟨⟨?_, ?_⟩, fun x hx => R.wf x (List.mem_of_mem_take hx)⟩
  · have h1 := R.own.1
    rw [flat_take, List.length_take, h1, hl]; exact Nat.min_eq_left hm
  · rcases R.own.2 with ⟨h1, h2⟩ | ⟨g, c, cur, h1, h2, h3, h4, h5, h6, h7⟩
    · left
      have hx : k = 0 := by omega
      rw [h2] at h1
      rw [hl, hx]
      exact ⟨h1, rfl⟩
    · right
      injection h1 with e1 e2 e3
      subst e1 e3
      exact ⟨g, cap, cur, rfl, h2, h3, by omega, h5, h6, by rw [flat_take, ← h7, List.take_take, hl, Nat.min_eq_left hm]⟩
section
variable {P : Program} {F : Nat → Prop} {w0 : World} {m0 : List BS} {n : Nat} {L : List (Nat × Value)} {fs : List RF} {os : List OF} {a : Act} {w : World}
/-- l = l[:k] -/
theorem St.rtk {α : Type} {E : Enc α} {t : TypeId} {bs : Nat} {ad : Option Addr} {cap : Nat} {xs : List α} (S : St F w0 m0 n L fs os a w) (i : Nat) (hi : nth os i = some (rwO E t bs ad cap xs)) (k : Nat) (hk : k ≤ xs.length) : St F w0 m0 n L fs (os.set i (rwO E t bs ad cap (xs.take k))) a w :=
  S.k1s i hi _ rfl S.s (Ch.refl _) ⟨((S.row i hi).tk k hk).own, ((S.row i hi).tk k hk).wf⟩
end
end Go.Proofs.Ytobggnpnochnnaa.V
