/- Texts of this claim in one: part C. -/
import Derived.Test.YtobggnpnochnnaaPRepB
import Derived.Test.YtobggnpnochnnaaPRepA
import Derived.Test.YtobggnpnochnnaaProg
import Derived.Shelf.SlicesE.DeleteFunc
import Derived.Shelf.Spec.SlicesInsertGrow
import Derived.Laws.AppendOwn
set_option linter.unusedVariables false
set_option linter.unusedSimpArgs false
/- Two facts of the call's own that a callee changes at once: a struct that holds a row. -/
namespace Go.Proofs.Ytobggnpnochnnaa.V
open Go.RowKit
theorem sep_idx : ∀ {ms : List BS}, (∀ i j : Nat, i ≠ j → ∀ (o p : BS), ms[i]? = some o → ms[j]? = some p → ∀ k, o k → ¬ p k) → Sep ms
  | [], _ => trivial
  | o :: r, h => ⟨fun k hk hm => by
      have : ∀ {l : List BS}, In l k → ∃ (j : Nat) (p : BS), l[j]? = some p ∧ p k := fun {l} => by
        induction l with
        | nil => intro h; exact h.elim
        | cons q l ih =>
          intro h
          rcases h with h | h
          · exact ⟨0, q, rfl, h⟩
          · obtain ⟨j, p, h1, h2⟩ := ih h; exact ⟨j + 1, p, h1, h2⟩
      obtain ⟨j, p, h1, h2⟩ := this hm
      exact h 0 (j + 1) (by omega) o p rfl h1 k hk h2,
    sep_idx fun i j hij a b ha hb => h (i + 1) (j + 1) (by omega) a b ha hb⟩
theorem in_at {l : List BS} {k : Nat} : In l k ↔ ∃ (j : Nat) (p : BS), l[j]? = some p ∧ p k := by
  induction l with
  | nil => exact ⟨fun h => h.elim, fun ⟨j, p, h, _⟩ => by simp at h⟩
  | cons q l ih =>
    constructor
    · rintro (h | h)
      · exact ⟨0, q, rfl, h⟩
      · obtain ⟨j, p, h1, h2⟩ := ih.1 h; exact ⟨j + 1, p, h1, h2⟩
    · rintro ⟨j, p, h1, h2⟩
      cases j with
      | zero => cases h1; exact .inl h2
      | succ j => exact .inr (ih.2 ⟨j, p, h1, h2⟩)
section
variable {F : Nat → Prop} {w0 w w' : World} {m0 : List BS} {n : Nat} {L : List (Nat × Value)} {rs : List RF} {os : List OF} {a : Act} {α : Type} {E : Enc α} {t : TypeId} {base : Nat} {ms : List BS} {ad : Option Addr} {cap : Nat} {xs : List α}
/-- a row of the caller's own as one that the callee may rewrite, and back -/
theorem Row.dn1 (r : Row E t base F ms w ad cap xs) {js : List Nat} : Row E t base (Ex F ms) (picks ms js) w ad cap xs := ⟨r.own, fun x hx => V.dn1 (r.wf x hx)⟩
theorem Row.ret {m : List BS} (r : Row E t base (Ex F ms) m w ad cap xs) : (rwO E t base ad cap xs).p F (In ms) w := ⟨r.own, fun x hx => Enc.mono _ (fun _ _ h => ⟨fun e => h.2 (.inl e), fun e => h.2 (.inr e)⟩) (r.wf x hx)⟩
theorem Row.ret2 {m : List BS} {W : Nat → Prop} (r : Row E t base (Ex F ms) m w ad cap xs) (h : ∀ k, W k → In ms k ∨ In m k) : (rwO E t base ad cap xs).p F W w := ⟨r.own, fun x hx => Enc.mono _ (fun k _ g => ⟨fun e => (h k e).elim (fun e => g.2 (.inl e)) g.1, fun e => g.2 (.inr e)⟩) (r.wf x hx)⟩
end
section
variable {F : Nat → Prop} {w0 w w' : World} {m0 : List BS} {n : Nat} {L L' : List (Nat × Value)} {rs : List RF} {os : List OF} {a a' : Act}
theorem St.k2 {f g : OF} (S : St F w0 m0 n L rs os a w) (i j : Nat) (hij : i ≠ j) (hi : nth os i = some f) (hj : nth os j = some g) (f' g' : OF) (s : Slots n L' a') (t : Tr [f.o, g.o] w [f'.o, g'.o] w')
    (hf : ∀ W, f'.p F W w') (hg : ∀ W, (∀ k, W k → In (ow os) k ∨ In [f'.o, g'.o] k) → g'.p F W w') : St F w0 m0 n L' rs ((os.set i f').set j g') a' w' := by
  have hof := ow_get hi
  have hog := ow_get hj
  have il : i < os.length := by rw [nth_get] at hi; exact (List.getElem?_eq_some_iff.1 hi).1
  have jl : j < os.length := by rw [nth_get] at hj; exact (List.getElem?_eq_some_iff.1 hj).1
  have hget : ∀ k o, (ow ((os.set i f').set j g'))[k]? = some o → (k = j ∧ o = g'.o) ∨ (k = i ∧ k ≠ j ∧ o = f'.o) ∨ (k ≠ i ∧ k ≠ j ∧ (ow os)[k]? = some o) := fun k o h => by
    rw [ow_map, List.getElem?_map, List.getElem?_set, List.getElem?_set] at h
    by_cases e : j = k
    · subst e
      rw [if_pos rfl, if_pos (by rw [List.length_set]; exact jl)] at h
      exact .inl ⟨rfl, (Option.some.inj h).symm⟩
    · rw [if_neg e] at h
      by_cases e2 : i = k
      · subst e2
        rw [if_pos rfl, if_pos il] at h
        exact .inr (.inl ⟨rfl, fun q => e q.symm, (Option.some.inj h).symm⟩)
      · rw [if_neg e2] at h
        refine .inr (.inr ⟨fun q => e2 q.symm, fun q => e q.symm, ?_⟩)
        rw [ow_map, List.getElem?_map]; exact h
  have hsub : ∀ k, In [f.o, g.o] k → In (ow os) k := fun k hk => by
    rcases hk with hk | hk | hk
    · exact in_at.2 ⟨i, _, hof, hk⟩
    · exact in_at.2 ⟨j, _, hog, hk⟩
    · exact hk.elim
  have hnew : ∀ k, In (ow ((os.set i f').set j g')) k → In (ow os) k ∨ In [f'.o, g'.o] k := fun k hk => by
    obtain ⟨m, o, h1, h2⟩ := in_at.1 hk
    rcases hget m o h1 with ⟨_, rfl⟩ | ⟨_, _, rfl⟩ | ⟨_, _, h⟩
    · exact .inr (.inr (.inl h2))
    · exact .inr (.inl h2)
    · exact .inl (in_at.2 ⟨m, o, h, h2⟩)
  have hMS := S.m.c.ms
  -- a block of the changed ones is none of another fact's
  have hout : ∀ m o, m ≠ i → m ≠ j → (ow os)[m]? = some o → ∀ k, o k → ¬ In [f'.o, g'.o] k := fun m o hmi hmj hm k hk hin => by
    rcases t.sub k hin with h | h
    · have := hMS.sep.out m [i, j] (by simp; omega) hm hk
      simp only [picks, List.filterMap_cons, hof, hog, List.filterMap_nil] at this
      exact this h
    · have := hMS.lt k (in_at.2 ⟨m, o, hm, hk⟩); omega
  have hfg : ∀ k, f'.o k → ¬ g'.o k := fun k h1 h2 => t.ms.sep.1 k h1 (.inl h2)
  have T : Tr (ow os) w (ow ((os.set i f').set j g')) w' := by
    refine ⟨t.ch.mono hsub, fun k hk => ?_, ⟨fun k hk => ?_, sep_idx fun x y hxy o p hx hy k ho hp => ?_⟩⟩
    · rcases hnew k hk with h | h
      · exact .inl h
      · exact (t.sub k h).imp (hsub k) id
    · rcases hnew k hk with h | h
      · exact Nat.lt_of_lt_of_le (hMS.lt k h) t.size
      · exact t.ms.lt k h
    · rcases hget x o hx with ⟨rfl, rfl⟩ | ⟨rfl, hxj, rfl⟩ | ⟨hxi, hxj, hx2⟩ <;> rcases hget y p hy with ⟨rfl, rfl⟩ | ⟨rfl, hyj, rfl⟩ | ⟨hyi, hyj, hy2⟩
      · exact hxy rfl
      · exact hfg k hp ho
      · exact hout y p hyi hyj hy2 k hp (.inr (.inl ho))
      · exact hfg k ho hp
      · exact hxy rfl
      · exact hout y p hyi hyj hy2 k hp (.inl ho)
      · exact hout x o hxi hxj hx2 k ho (.inr (.inl hp))
      · exact hout x o hxi hxj hx2 k ho (.inl hp)
      · have := hMS.sep.out x [y] (by simp; omega) hx2 ho
        simp only [picks, List.filterMap_cons, hy2, List.filterMap_nil] at this
        exact this (.inl hp)
  refine ⟨s, S.m.go T fun q hq => ?_⟩
  obtain ⟨m, hm⟩ := idx_of hq
  rw [nth_get, List.getElem?_set, List.getElem?_set] at hm
  by_cases e : j = m
  · subst e
    rw [if_pos rfl, if_pos (by rw [List.length_set]; exact jl)] at hm
    cases hm
    exact hg _ hnew
  · rw [if_neg e] at hm
    by_cases e2 : i = m
    · subst e2
      rw [if_pos rfl, if_pos il] at hm
      cases hm
      exact hf _
    · rw [if_neg e2, ← nth_get] at hm
      refine q.st T.mv (fun k hk ho => t.ch.block k hk fun hin => ?_) (S.m.o q (nth_mem hm))
      have := hMS.sep.out m [i, j] (by simp; omega) (ow_get hm) ho
      simp only [picks, List.filterMap_cons, hof, hog, List.filterMap_nil] at this
      exact this hin
end
end Go.Proofs.Ytobggnpnochnnaa.V
/- A drawn region whose store stands amid heads: addresses behind it that read heads are made in any order beside it. -/
namespace Go.Proofs.Ytobggnpnochnnaa.V
open Go.RowKit
theorem cat_app : ∀ (V L : List (Nat × Value)), cat V L = V ++ L
  | [], _ => rfl
  | p :: r, L => by rw [cat, cat_app r L]; rfl
theorem look_none {d : Nat} : ∀ (A : List (Nat × Value)), (∀ p ∈ A, p.1 ≠ d) → look d A = none
  | [], _ => rfl
  | (i, v) :: r, h => by
    rw [look_cons, if_neg (h _ List.mem_cons_self)]
    exact look_none r fun p hp => h p (List.mem_cons_of_mem _ hp)
end Go.Proofs.Ytobggnpnochnnaa.V
/- A drawn region whose store stands amid heads, one of which may run behind it (a move that is read only later). -/
namespace Go.Proofs.Ytobggnpnochnnaa.V
open Go.RowKit
/-- heads 0..n-1, but for the one at z, which may also run behind n; n: what may not be moved; then a chain -/
def lazyOk3 (ops : Array Oper) (n z d : Nat) (L : List (Nat × Value)) : Bool :=
  decide (n + 1 < ops.size) && decide (z < n) && Region.sinkB .any ops (n + 1) && Region.chainB .any ops (n + 1) &&
  Region.seqB .any ops (ops.size - (n + 1)) (n + 1) (Array.replicate (n + 1) true ++ Array.replicate (ops.size - (n + 1)) false) &&
  L.all (fun p => (List.range (n + 1)).all fun j => match ops[j]? with | some q => q.dst != some p.1 | none => false) &&
  (match ops[n]? with | some o => o.after.all fun e => !Region.binds .any e || decide (e.on < n) | none => false) &&
  ((List.range n).all fun i => i == z || (List.range (n + 1)).any fun j => decide (i < j) && j != z && Region.waitsFor .any ops j i) &&
  (match ops[z]? with | some o => o.dst == some d && o.guard.isNone | none => false) &&
  (List.range (n + 1)).all fun j => j == z || match ops[j]? with | some p => p.dst != some d && !(p.looksAt ops).contains d | none => false
theorem listed_down3 {ops : Array Oper} {n z : Nat} {listed : Array Bool} (hs : ((List.range n).all fun i => i == z || (List.range (n + 1)).any fun j => decide (i < j) && j != z && Region.waitsFor .any ops j i) = true) (hcl : ∀ j oj, ops[j]? = some oj → listed.getD j false = true ∨ j = n → ∀ e ∈ oj.after, Region.binds .any e = true → listed.getD e.on false = true) : ∀ d i, n - i = d → i < n → i ≠ z → listed.getD i false = true := by
  intro d
  induction d using Nat.strongRecOn with
  | _ d ih =>
    intro i hd hi hz
    have h1 := List.all_eq_true.1 hs i (List.mem_range.2 hi)
    simp only [Bool.or_eq_true, beq_iff_eq] at h1
    obtain ⟨j, hj, hj2⟩ := List.any_eq_true.1 (h1.resolve_left hz)
    simp only [Bool.and_eq_true, decide_eq_true_eq, bne_iff_ne] at hj2
    obtain ⟨oj, hoj, e, he, hb, hon⟩ := Region.waitsFor_spec hj2.2
    have hjle : j ≤ n := by have := List.mem_range.1 hj; omega
    rw [← hon]
    refine hcl j oj hoj ?_ e he hb
    rcases Nat.lt_or_ge j n with g | g
    · exact .inl (ih (n - j) (by omega) j rfl g hj2.1.2)
    · exact .inr (by omega)
section
variable {P : Program} {Q : Exit → Act → World → Prop}
theorem lazy_main3 {M : Nat → Prop} {ops : Array Oper} {n N zp zd : Nat} {zv : Value} {L : List (Nat × Value)} {W : World} {E : List (Nat × StP M)} {I : World → Prop} {Ds : List (List Nat)} {outs : List Nat} {J : Act → World → Prop} {t1 : Oper} {rest : List Oper}
    (ht1 : ops[n]? = some t1) (hg1 : t1.guard = none) (hrest : rest = ops.toList.drop (n + 1))
    (hok : (headOk ops n && depsOk ops n 0 Ds && keysOk ops n L && outs.all (fun d => d != zd && isHead ops n d) && lazyOk3 ops n zp zd L) = true) (hlen : Ds.length = n)
    (step : ∀ i, i < n → i ≠ zp → ∃ o D, ops[i]? = some o ∧ Ds[i]? = some D ∧ ∀ a w, Ch M W w → I w → Slots N L a → deps E a w D → wpOp P ops Q i (Done o E I N a w) a w)
    (hzn : zd < N) (lzy : ∃ o, ops[zp]? = some o ∧ ∀ a w, Slots N L a → (execOp a.eval o).run P w = .ok (.value zv) w)
    (main : ∀ a w, Ch M W w → I w → Slots N L a → deps E a w outs → t1.wp P a w J Q)
    (stay : ∀ a w v, J a w → J (a.put (some zd) v) w) (hJ : ∀ a w, J a w → Slots N L a)
    (fin : ∀ a w, J a w → a.tmps.getD zd undef = zv → wpList P ops Q rest a w) :
    ∀ (f : Nat) (listed : Array Bool) (a : Act) (w : World), left (n + 1) listed = f → HeadInv .any ops (n + 1) listed → Slots N L a →
      (listed.getD zp false = true → a.tmps.getD zd undef = zv) →
      (listed.getD n false = false → Ch M W w ∧ I w ∧ ∀ j, j < n → j ≠ zp → listed.getD j false = true → ∀ o d, ops[j]? = some o → o.dst = some d → lookE E d (a.tmps.getD d undef) w) →
      (listed.getD n false = true → J a w) →
      wpAny P .any ops Q (f + (ops.size - (n + 1))) listed a w := by
  simp only [Bool.and_eq_true] at hok
  obtain ⟨⟨⟨⟨h1, h2⟩, h3⟩, h4⟩, h5⟩ := hok
  simp only [lazyOk3, Bool.and_eq_true, decide_eq_true_eq] at h5
  obtain ⟨⟨⟨⟨⟨⟨⟨⟨⟨hsz, hzn'⟩, hsink2⟩, hchain⟩, hseq⟩, hLk⟩, ht1e⟩, hsink⟩, hzo⟩, hz⟩ := h5
  obtain ⟨oz, hoz, lzy⟩ := lzy
  rw [hoz] at hzo
  simp only [Bool.and_eq_true, beq_iff_eq, Option.isNone_iff_eq_none] at hzo
  have zfact : ∀ j, j < n + 1 → j ≠ zp → ∃ p, ops[j]? = some p ∧ p.dst ≠ some zd ∧ zd ∉ p.looksAt ops := fun j hj hne => by
    have g := List.all_eq_true.1 hz j (List.mem_range.2 hj)
    simp only [Bool.or_eq_true, beq_iff_eq] at g
    have g2 := g.resolve_left hne
    cases hp : ops[j]? with
    | none => rw [hp] at g2; cases g2
    | some p =>
      rw [hp] at g2
      simp only [Bool.and_eq_true, bne_iff_ne, Bool.not_eq_true'] at g2
      exact ⟨p, rfl, g2.1, fun h => by have := g2.2; rw [List.contains_eq_mem] at this; simp [h] at this⟩
  -- no key of L is written
  have nokey : ∀ j, j < n + 1 → ∀ p, ops[j]? = some p → ∀ i v, look i L = some v → p.dst ≠ some i := fun j hj p hp i v hv => by
    have g := List.all_eq_true.1 hLk _ (look_mem hv)
    have g2 := List.all_eq_true.1 g j (List.mem_range.2 hj)
    rw [hp] at g2
    simpa using g2
  have putL : ∀ {j : Nat} {p : Oper} {a : Act} {v : Value}, j < n + 1 → ops[j]? = some p → Slots N L a → Slots N L (a.put p.dst v) := fun {j p a v} hj hp S => by
    cases hd : p.dst with
    | none => exact S
    | some d =>
      refine ⟨by simp [Act.put, S.size], S.defers, fun i u hu => ?_⟩
      have hne := nokey j hj p hp i u hu
      rw [hd] at hne
      rw [show (a.put (some d) v).tmps.getD i undef = a.tmps.getD i undef from by simp [Act.put, Array.getElem?_setIfInBounds_ne (fun (e : d = i) => hne (by rw [e]))]]
      exact S.get i u hu
  intro f
  induction f with
  | zero =>
    intro listed a w hf inv S hZ hno hyes
    have hall := left_zero hf
    have get' : ∀ i, i < n + 1 → listed.getD i false = true := fun i hi => by
      have g3 := hall i hi
      have hs := inv.size
      have hlt : i < listed.size := by omega
      simp [hlt] at g3 ⊢
      exact g3
    have hl : listed = Array.replicate (n + 1) true ++ Array.replicate (ops.size - (n + 1)) false := by
      apply Array.ext
      · simp [inv.size]; omega
      · intro i g1 g2
        by_cases hi : i < n + 1
        · have g3 := hall i hi
          simp [g1] at g3
          simp [Array.getElem_append, hi, g3]
        · have g3 := inv.tail i (by omega) (by rw [← inv.size]; exact g1)
          simp [g1] at g3
          simp [Array.getElem_append, hi, g3]
    have hJ' : J a w := hyes (get' n (by omega))
    have hzz := hZ (get' zp (by omega))
    subst hl
    have hlen' : rest.length = ops.size - (n + 1) := by rw [hrest]; simp
    have h := wpAny_of_seq (P := P) (ops := ops) (md := .any) (Q' := Q) rest (n + 1) (Array.replicate (n + 1) true ++ Array.replicate (ops.size - (n + 1)) false) a w (fun j => by rw [hrest, List.getElem?_drop, Array.getElem?_toList]) (by rw [hlen']; exact hseq) (fin a w hJ' hzz)
    rw [hlen'] at h
    rw [Nat.zero_add]
    exact h
  | succ f ih =>
    intro listed a w hf inv S hZ hno hyes
    rw [show f + 1 + (ops.size - (n + 1)) = (f + (ops.size - (n + 1))) + 1 from by omega]
    obtain ⟨j0, hj0n, hj0l, hj0min⟩ := left_pos (n := n + 1) (listed := listed) (by omega)
    have notready : ∀ i, i ∈ Region.ready .any ops listed → i < n + 1 := fun i hi => Nat.lt_of_not_le fun h => tail_waits hsink2 hchain hsz inv _ j0 rfl hj0n hj0l i h hi
    refine ⟨fun hr => ?_, fun i hi => ?_⟩
    · exfalso
      have hlow : ∀ i, i < j0 → listed.getD i false = true := fun i hi => by
        have g3 := hj0min i hi
        have hs := inv.size
        have hlt : i < listed.size := by omega
        simp [hlt] at g3 ⊢
        exact g3
      have hmem : j0 ∈ Region.ready .any ops listed := by
        have hlt : j0 < ops.size := by omega
        refine mem_ready.2 ⟨hj0l, ops[j0], Array.getElem?_eq_getElem hlt, fun e he hb => hlow _ ?_⟩
        rcases Nat.lt_trichotomy j0 n with g | g | g
        · have q1 := List.all_eq_true.1 h1 j0 (List.mem_range.2 g)
          rw [Array.getElem?_eq_getElem hlt] at q1
          simp only [Bool.and_eq_true] at q1
          have q2 := Array.all_eq_true_iff_forall_mem.1 q1.1 e he
          simpa [hb] using q2
        · subst g
          rw [Array.getElem?_eq_getElem hlt] at ht1e
          have q2 := Array.all_eq_true_iff_forall_mem.1 ht1e e he
          simpa [hb] using q2
        · omega
      rw [hr] at hmem; cases hmem
    · have hin := notready i hi
      obtain ⟨hil, o, ho, hall⟩ := mem_ready.1 hi
      have hil' := getD_both hil
      have hl' := left_set hin hil
      have inv' := inv.set hi hin
      have zkeep : ∀ {p : Oper} {v : Value}, ops[i]? = some p → i ≠ zp → (listed.setIfInBounds i true).getD zp false = true → (a.put p.dst v).tmps.getD zd undef = zv := fun {p v} hp hne hl => by
        rw [getD_set_ne false hne] at hl
        obtain ⟨p2, e6, e7, _⟩ := zfact i hin hne
        obtain rfl := Option.some.inj (hp.symm.trans e6)
        have := hZ hl
        cases hd : p.dst with
        | none => exact this
        | some d =>
          have : d ≠ zd := fun e => e7 (by rw [hd, e])
          rw [show (a.put (some d) v).tmps.getD zd undef = a.tmps.getD zd undef from by simp [Act.put, Array.getElem?_setIfInBounds_ne this]]
          assumption
      by_cases hizp : i = zp
      · -- the lazy one
        subst hizp
        obtain rfl := Option.some.inj (ho.symm.trans hoz)
        unfold wpOp
        rw [ho]
        simp only [Region.wanted, hzo.2, if_true]
        refine .inl (op_val (lzy a w S) ?_)
        rw [hzo.1]
        have hput : ∀ d, d ≠ zd → (a.put (some zd) zv).tmps.getD d undef = a.tmps.getD d undef := fun d hd => by simp [Act.put, Array.getElem?_setIfInBounds_ne (Ne.symm hd)]
        refine ih _ _ w (by omega) inv' (by have := putL (v := zv) hin ho S; rwa [hzo.1] at this) (fun hl => ?_) (fun hh => ?_) fun hh => ?_
        · rw [getD_put a zd zd zv (by rw [S.size]; exact hzn), if_pos rfl]
        · rw [getD_set_ne false (by omega)] at hh
          obtain ⟨hC, hI, hE⟩ := hno hh
          refine ⟨hC, hI, fun j hj hjz hjl p d hp hd => ?_⟩
          rw [getD_set_ne false (Ne.symm hjz)] at hjl
          obtain ⟨p2, f6, f7, _⟩ := zfact j (by omega) hjz
          obtain rfl := Option.some.inj (hp.symm.trans f6)
          rw [hput d (fun e => f7 (by rw [hd, e]))]
          exact hE j hj hjz hjl p d hp hd
        · rw [getD_set_ne false (by omega)] at hh
          exact stay a w zv (hyes hh)
      rcases Nat.lt_trichotomy i n with hlt | heq | hgt
      · -- a head
        have hn1 : listed.getD n false = false := by
          cases hc : listed.getD n false
          · rfl
          · have := listed_down3 hsink (fun j oj hoj h e he hb => by
              rcases h with h | h
              · exact inv.closed j oj hoj h e he hb
              · subst h; exact inv.closed j oj hoj hc e he hb) _ i rfl hlt hizp
            rw [hil'] at this; cases this
        obtain ⟨hC, hI, hE⟩ := hno hn1
        obtain ⟨o', D, e1, e2, hst⟩ := step i hlt hizp
        obtain rfl := Option.some.inj (ho.symm.trans e1)
        have hdep : ∀ D', (∀ d ∈ D', d ∈ D) → deps E a w D' := by
          intro D'
          induction D' with
          | nil => intro _; trivial
          | cons d r ihD =>
            intro hsub
            refine ⟨?_, ihD fun d hd => hsub d (List.mem_cons_of_mem _ hd)⟩
            have hget : ∀ (Ds : List (List Nat)) (k i : Nat), depsOk ops n k Ds = true → Ds[i]? = some D → ∃ o, ops[k + i]? = some o ∧ ∀ d ∈ D, d ∈ o.looksAt ops ∧ isHead ops n d = true := by
              intro Ds
              induction Ds with
              | nil => intro k i _ h; simp at h
              | cons D0 Ds ihh =>
                intro k i hk hi
                simp only [depsOk, Bool.and_eq_true] at hk
                cases i with
                | zero =>
                  obtain rfl : D0 = D := by simpa using hi
                  cases hp : ops[k]? with
                  | none => rw [hp] at hk; cases hk.1
                  | some p =>
                    rw [hp] at hk
                    refine ⟨p, rfl, fun d hd => ?_⟩
                    have := List.all_eq_true.1 hk.1 d hd
                    simpa [Bool.and_eq_true, List.contains_iff_mem] using this
                | succ i =>
                  obtain ⟨o, g1, g2⟩ := ihh (k + 1) i hk.2 (by simpa using hi)
                  exact ⟨o, by rw [show k + (i + 1) = k + 1 + i from by omega]; exact g1, g2⟩
            obtain ⟨o2, g1, g2⟩ := hget Ds 0 i h2 e2
            rw [Nat.zero_add, ho] at g1
            obtain rfl := Option.some.inj g1
            obtain ⟨g3, g4⟩ := g2 d (hsub d List.mem_cons_self)
            obtain ⟨k, p, g5, g6, g7⟩ := isHead_spec g4
            have q1 := List.all_eq_true.1 h1 i (List.mem_range.2 hlt)
            simp only [ho, Bool.and_eq_true] at q1
            have q2 := List.all_eq_true.1 q1.2 k (List.mem_range.2 g5)
            simp only [g6, g7, Bool.and_eq_true, Bool.or_eq_true, Bool.not_eq_true'] at q2
            rcases q2.2 with q3 | q3
            · rw [List.contains_eq_mem] at q3
              simp [g3] at q3
            · obtain ⟨e, he, hb⟩ := Array.any_eq_true'.1 q3
              simp only [Bool.and_eq_true, beq_iff_eq] at hb
              refine hE k g5 (fun hkz => ?_) (by rw [← hb.2]; exact hall e he hb.1) p d g6 g7
              rw [hkz, hoz] at g6
              obtain rfl := Option.some.inj g6
              obtain rfl := Option.some.inj (hzo.1.symm.trans g7)
              obtain ⟨p2, f6, _, f8⟩ := zfact i hin hizp
              obtain rfl := Option.some.inj (ho.symm.trans f6)
              exact f8 g3
        refine wpOp_mono ?_ (hst a w hC hI S (hdep D fun d hd => hd))
        rintro a' w2 ⟨⟨v, rfl, hd'⟩, hc, hi'⟩
        refine ih _ _ w2 (by omega) inv' (putL hin ho S) (zkeep ho hizp) (fun _ => ⟨hC.same hc, hi', fun k hk hkz hkl p d hp hd => ?_⟩) fun hh => ?_
        · by_cases hki : k = i
          · subst hki
            obtain rfl := Option.some.inj (ho.symm.trans hp)
            obtain ⟨k1, k2⟩ := hd' d hd
            rw [hd, getD_put a d d v (by rw [S.size]; exact k1), if_pos rfl]
            exact k2
          · rw [getD_set_ne false (Ne.symm hki)] at hkl
            have g1 := lookE_st E d _ _ _ hc (hE k hk hkz hkl p d hp hd)
            have hdist : o.dst ≠ some d := by
              have q1 := List.all_eq_true.1 h1 i (List.mem_range.2 hlt)
              simp only [ho, Bool.and_eq_true] at q1
              have q2 := List.all_eq_true.1 q1.2 k (List.mem_range.2 hk)
              simp only [hp, hd, Bool.and_eq_true, Bool.or_eq_true, beq_iff_eq, bne_iff_ne, Option.isNone_some, Bool.false_eq_true, or_false] at q2
              exact fun e => (q2.1.resolve_left hki) e.symm
            cases hod : o.dst with
            | none => exact g1
            | some d2 =>
              have : d2 ≠ d := fun e => hdist (by rw [hod, e])
              rw [show (a.put (some d2) v).tmps.getD d undef = a.tmps.getD d undef from by simp [Act.put, Array.getElem?_setIfInBounds_ne this]]
              exact g1
        · rw [getD_set_ne false (by omega), hn1] at hh; cases hh
      · -- what may not be moved
        subst heq
        obtain rfl := Option.some.inj (ht1.symm.trans ho)
        obtain ⟨hC, hI, hE⟩ := hno hil'
        have hdown := listed_down3 hsink (listed := listed) fun j oj hoj h e he hb => by
          rcases h with h | h
          · exact inv.closed j oj hoj h e he hb
          · subst h
            obtain rfl := Option.some.inj (ho.symm.trans hoj)
            exact hall e he hb
        have hde : ∀ outs', (∀ d ∈ outs', (d != zd && isHead ops i d) = true) → deps E a w outs' := by
          intro outs'
          induction outs' with
          | nil => intro _; trivial
          | cons d r ihd =>
            intro h
            have hh := h d List.mem_cons_self
            simp only [Bool.and_eq_true, bne_iff_ne] at hh
            obtain ⟨k, p, g5, g6, g7⟩ := isHead_spec hh.2
            have hkz : k ≠ zp := fun e => by
              rw [e, hoz] at g6
              obtain rfl := Option.some.inj g6
              exact hh.1 (Option.some.inj (g7.symm.trans hzo.1))
            exact ⟨hE k g5 hkz (hdown _ k rfl g5 hkz) p d g6 g7, ihd fun d hd => h d (List.mem_cons_of_mem _ hd)⟩
        have hm := Oper.wp_put (main a w hC hI S (hde outs (List.all_eq_true.1 h4)))
        unfold wpOp
        rw [ho]
        simp only [Region.wanted, hg1, if_true]
        refine .inl (Oper.wp_mono ?_ hm)
        rintro a' w2 ⟨hJ2, v, hv⟩
        refine ih _ _ w2 (by omega) inv' (hJ _ _ hJ2) (fun hl => ?_) (fun hh => ?_) fun _ => hJ2
        · rw [hv]; exact zkeep (v := v) ho hizp hl
        · have hlt : i < listed.size := by rw [inv.size]; omega
          simp [hlt] at hh
      · omega
theorem wp_lazy3 {M : Nat → Prop} {id : Nat} {a₀ : Act} {w : World} {l : List Oper} {N : Nat} {L : List (Nat × Value)} (S : Slots N L a₀) (n zp zd : Nat) (zv : Value) (E : List (Nat × StP M)) (I : World → Prop) (Ds : List (List Nat)) (outs : List Nat) (t1 : Oper) (rest : List Oper) (J : Act → World → Prop)
    (ht1 : l[n]? = some t1) (hg1 : t1.guard = none) (hrest : rest = l.drop (n + 1)) (hm : P.follows .mixedOrders = true) (hok : (headOk l.toArray n && depsOk l.toArray n 0 Ds && keysOk l.toArray n L && outs.all (fun d => d != zd && isHead l.toArray n d) && lazyOk3 l.toArray n zp zd L) = true) (hlen : Ds.length = n) (hI : I { w with drawn := w.drawn + 1 })
    (step : steps P l.toArray Q N L w E I 0 (l.take n) Ds) (hzn : zd < N) (lzy : ∃ o, l.toArray[zp]? = some o ∧ ∀ a w, Slots N L a → (execOp a.eval o).run P w = .ok (.value zv) w)
    (main : ∀ a w', Ch M w w' → I w' → Slots N L a → deps E a w' outs → t1.wp P a w' J Q)
    (stay : ∀ a w v, J a w → J (a.put (some zd) v) w) (hJ : ∀ a w, J a w → Slots N L a)
    (fin : ∀ a w, J a w → a.tmps.getD zd undef = zv → wpList P l.toArray Q rest a w) : (Code.region id l.toArray true).wp P Q a₀ w := by
  have hsz : n + 1 < l.length := by
    have h := hok
    simp only [Bool.and_eq_true, lazyOk3, decide_eq_true_eq] at h
    simpa using h.2.1.1.1.1.1.1.1.1.1
  refine wp_region_any hm ?_
  have inv0 : HeadInv .any l.toArray (n + 1) (Array.replicate l.toArray.size false) :=
    ⟨by simp, fun j oj _ hl => (by rw [getD_replicate_false] at hl; cases hl), fun t _ ht => getD_in (by simpa using ht) (getD_replicate_false _ _)⟩
  have hleft : left (n + 1) (Array.replicate l.toArray.size false) = n + 1 := by
    unfold left
    rw [List.filter_eq_self.2]
    · simp
    · intro j hj
      have := List.mem_range.1 hj
      rw [getD_in (by simp; omega) (getD_replicate_false _ _)]
      rfl
  have h := lazy_main3 (P := P) (Q := Q) (M := M) (ops := l.toArray) (n := n) (N := N) (zp := zp) (zd := zd) (zv := zv) (L := L) (W := w) (E := E) (I := I) (Ds := Ds) (outs := outs) (J := J) (t1 := t1) (rest := rest) (by simpa using ht1) hg1 (by simpa using hrest) hok hlen
    (fun i hi _ => by
      obtain ⟨o, D, e1, e2, h⟩ := steps_get (l.take n) Ds 0 i (by omega) (by simp; omega) step
      rw [List.getElem?_take_of_lt hi] at e1
      rw [Nat.zero_add] at h
      exact ⟨o, D, by simpa using e1, e2, h⟩)
    hzn lzy
    main stay hJ fin (n + 1) (Array.replicate l.toArray.size false) a₀ { w with drawn := w.drawn + 1 } hleft inv0 ⟨S.size, S.defers, S.get⟩
    (fun hl => by rw [getD_replicate_false] at hl; cases hl) (fun _ => ⟨(Ch.refl _).drew, hI, fun j _ _ hl => (by rw [getD_replicate_false] at hl; cases hl)⟩) (fun hl => by rw [getD_replicate_false] at hl; cases hl)
  rwa [show n + 1 + (l.toArray.size - (n + 1)) = l.toArray.size from by simp; omega] at h
end
section
variable {P : Program} {F : Nat → Prop} {w0 : World} {m0 : List BS} {n : Nat} {L : List (Nat × Value)} {fs : List RF} {os : List OF} {ty : TypeId} {pos : String} {af : Array Edge} {Q : Exit → Act → World → Prop}
/-- s.l = append(s.l, ..): the address of s may be read behind the append -/
theorem lza3 {α : Type} {id : Nat} {a : Act} {w : World} {l : List Oper} {d : Nat} {t ts : TypeId} {ad : Option Addr} {cap bs : Nat} {xs : List α} {z : Value} {bytes : Nat} {s x : Operand} {oz : Oper} (En : Enc α) (γ : Type) (S : St F w0 m0 n L fs os a w) (N zp zd : Nat) (zv : Value) (chg : List BS) (E : List (Nat × Td (In chg))) (Ds : List (List Nat)) (outs : List Nat) (j : Nat) (hj : nth os j = some (rwO En t bs ad cap xs))
    (V : γ → List (Nat × Value)) (R : γ → Prop) (ys : γ → List α) (step : HS P l.toArray Q F w0 w m0 n L fs os E 0 (l.take N) Ds) (lzy : ∀ (a : Act) (w : World), Slots n L a → (execOp a.eval oz).run P w = .ok (.value zv) w)
    (main : ∀ a w', St F w0 m0 n (cat (vals E outs) L) fs os a w' → Ch (In chg) w w' → pdeps E a w' outs → ∃ (g : γ) (sa : Option Addr) (sc : Nat) (D : Nat → Prop), Slots n (cat (V g) L) a ∧ R g ∧ evS (cat (V g) L) s = some (.slice ad xs.length cap) ∧ evS (cat (V g) L) x = some (.slice sa (ys g).length sc) ∧ LAt En D w'.heap sa (ys g) ∧ (sa = none → sc = 0) ∧ (∀ y ∈ ys g, En.wf (Fr F (ow os)) w'.heap y) ∧ (xs.length + (ys g).length ≤ maxLen ∧ (xs.length + (ys g).length) * bytes ≤ 140737488355328))
    (fin : ∀ g ad' cap' a w, St F w0 m0 n ((zd, zv) :: (d, .slice ad' (xs ++ ys g).length cap') :: cat (V g) L) fs (os.set j (rwO En t bs ad' cap' (xs ++ ys g))) a w → R g → wpList P l.toArray Q (l.drop (N + 1)) a w)
    (ht : P.underlying ts = some (.slice t)) (hz : (P.info? t).map (fun i => (i.zero, i.size, i.bytes)) = some (some z, En.n, bytes)) (hzz : z.cells.size = En.n ∧ 0 < En.n := by exact ⟨rfl, by decide⟩) (ht1 : l[N]? = some ⟨some d, .call ⟨.builtin .append, #[s, x], #[ts, ts]⟩, ty, pos, af, none⟩ := by rfl) (hoz : l[zp]? = some oz := by rfl) (hm : P.follows .mixedOrders = true := by exact mixed)
    (hok : (headOk l.toArray N && depsOk l.toArray N 0 Ds && keysOk l.toArray N L && outs.all (fun d => d != zd && isHead l.toArray N d) && lazyOk3 l.toArray N zp zd L) = true := by kernel_rfl) (hlen : Ds.length = N := by rfl) (hV : ∀ g, (V g).map (·.1) = outs := by intro _; rfl) (hzo : (zd != d && !outs.contains zd) = true := by kernel_rfl) (hzl : (L.all fun p => p.1 != zd) = true := by kernel_rfl) (hzn : zd < n := by decide) (hdn : d < n := by decide) (hdo : outs.contains d = false := by kernel_rfl) (hbs : bs ≤ w0.heap.size := by first | exact Nat.le_refl _ | exact Nat.zero_le _ | assumption) : (Code.region id l.toArray true).wp P Q a w := by
  have e1 := rowSplit hj
  simp only [Bool.and_eq_true, bne_iff_ne, Bool.not_eq_true'] at hzo
  have hln : ∀ g u, look zd ((d, u) :: cat (V g) L) = none := fun g u => by
    rw [look_cons, if_neg (fun e => hzo.1 e.symm)]
    refine look_none _ fun p hp e => ?_
    rw [cat_app] at hp
    rcases List.mem_append.1 hp with hp | hp
    · have : p.1 ∈ outs := by rw [← hV g]; exact List.mem_map_of_mem hp
      rw [e] at this
      have q3 := hzo.2
      rw [List.contains_iff_mem.2 this] at q3; cases q3
    · have := List.all_eq_true.1 hzl p hp
      simp [e] at this
  refine wp_lazy3 S.s N zp zd zv (tq E) (Mm F w0 m0 fs os) Ds outs _ _ (fun a w => ∃ g ad' cap', St F w0 m0 n ((d, .slice ad' (xs ++ ys g).length cap') :: cat (V g) L) fs (os.set j (rwO En t bs ad' cap' (xs ++ ys g))) a w ∧ R g) ht1 rfl rfl hm hok hlen S.m.drew (HS.steps _ _ _ step) hzn ⟨oz, by simpa using hoz, lzy⟩ ?_ ?_ ?_ ?_
  · intro a w' hc hM s hd
    obtain ⟨h1, h2⟩ := deps_open s outs hd
    obtain ⟨g, sa, sc, D, k1, k2, k3, k4, k5, k6, k7, k8⟩ := main a w' ⟨h1, hM⟩ hc h2
    refine op_append (E := En) ((ow os).take j) ((ow os).drop (j + 1)) _ _ ts rfl z bytes ht hz hzz.1 hzz.2 (rowSplit hj) hM.c.ms (k1.eval k3) (St.row ⟨k1, hM⟩ j hj) (ys g) sa sc (k1.eval k4) k5 k6 k7 k8.1 k8.2 (Nat.le_trans hbs hM.c.size) fun ad' cap' w2 Rw T gg => ?_
    have e2 := ow_setx (g := rwO En t bs ad' cap' (xs ++ ys g)) hj
    have T' : Tr (ow os) w' (ow (os.set j (rwO En t bs ad' cap' (xs ++ ys g)))) w2 := by
      rw [e2]; conv => arg 1; rw [e1]
      exact T
    exact ⟨g, ad', cap', ⟨k1.put hdn, hM.sw j hj _ T' gg (by rw [e2]; exact ⟨Rw.own, Rw.wf⟩)⟩, k2⟩
  · rintro a w v ⟨g, ad', cap', S', hR⟩
    exact ⟨g, ad', cap', ⟨S'.s.put_ne (hln g _), S'.m⟩, hR⟩
  · rintro a w ⟨g, ad', cap', S', _⟩
    refine ⟨S'.s.size, S'.s.defers, fun i v hv => S'.s.get i v ?_⟩
    have hok' := hok
    simp only [Bool.and_eq_true] at hok'
    have hlz := hok'.2
    simp only [lazyOk3, Bool.and_eq_true] at hlz
    have hLk := hlz.1.1.1.1.2
    have hne : d ≠ i := fun e => by
      have q := List.all_eq_true.1 hLk _ (look_mem hv)
      have q2 := List.all_eq_true.1 q N (List.mem_range.2 (by omega))
      rw [show l.toArray[N]? = l[N]? from by simp, ht1] at q2
      simp [e] at q2
    rw [look_cons, if_neg hne, cat_app]
    have : ∀ (A : List (Nat × Value)), (∀ p ∈ A, p.1 ≠ i) → look i (A ++ L) = look i L := by
      intro A
      induction A with
      | nil => intro _; rfl
      | cons p r ih =>
        intro h; obtain ⟨i', v'⟩ := p
        rw [List.cons_append, look_cons, if_neg (h _ List.mem_cons_self)]
        exact ih fun p hp => h p (List.mem_cons_of_mem _ hp)
    rw [this _ ?_]; exact hv
    intro p hp e
    have hin : i ∈ outs := by rw [← hV g, ← e]; exact List.mem_map_of_mem hp
    have hk := List.all_eq_true.1 hok'.1.1.2 _ (look_mem hv)
    have ho := List.all_eq_true.1 hok'.1.2 _ hin
    simp only [Bool.not_eq_true', Bool.and_eq_true] at hk ho
    rw [ho.2] at hk; cases hk
  · rintro a w ⟨g, ad', cap', S', hR⟩ hzv
    refine fin g ad' cap' a w ⟨⟨S'.s.size, S'.s.defers, fun i u hu => ?_⟩, S'.m⟩ hR
    rw [look_cons] at hu
    by_cases e : zd = i
    · rw [if_pos e] at hu
      rw [← e, hzv]
      exact Option.some.inj hu
    · rw [if_neg e] at hu
      exact S'.s.get i u hu
end
end Go.Proofs.Ytobggnpnochnnaa.V
set_option linter.unusedVariables false
set_option linter.unusedSimpArgs false
namespace Go.Proofs.Ytobggnpnochnnaa.V
open Go.RowKit
theorem getD_mem {α : Type} {xs : List α} {i : Nat} {d : α} (h : i < xs.length) : xs.getD i d ∈ xs := by
  rw [List.getD_eq_getElem?_getD, List.getElem?_eq_getElem h]; exact List.getElem_mem h
end Go.Proofs.Ytobggnpnochnnaa.V
set_option linter.unusedVariables false
set_option linter.unusedSimpArgs false
namespace Go.Proofs.Ytobggnpnochnnaa.V
open Go.RowKit
/-- a number put into an ascending list, unless it is there -/
def insW : List Int → Int → List Int
  | [], v => [v]
  | x :: t, v => if x < v then x :: insW t v else if x = v then x :: t else v :: x :: t
theorem insW_mem : ∀ {l : List Int} {v : Int}, l.Pairwise (· < ·) → v ∈ l → insW l v = l
  | x :: t, v, hp, h => by
    rw [List.pairwise_cons] at hp
    rcases List.mem_cons.1 h with rfl | h
    · rw [insW, if_neg (by omega), if_pos rfl]
    · have := hp.1 v h
      rw [insW, if_pos this, insW_mem hp.2 h]
theorem insW_new : ∀ {l : List Int} {v : Int} {r : Nat}, r ≤ l.length → (∀ k, k < r → l.getD k 0 < v) → (∀ k, r ≤ k → k < l.length → v ≤ l.getD k 0) → ¬ v ∈ l → insW l v = l.take r ++ [v] ++ l.drop r
  | [], v, r, hr, _, _, _ => by
    obtain rfl : r = 0 := by simpa using hr
    rfl
  | x :: t, v, 0, _, _, h2, hn => by
    have h := h2 0 (Nat.le_refl _) (by simp)
    have hx : v ≠ x := fun e => hn (by simp [e])
    have h' : v ≤ x := by simpa using h
    rw [insW, if_neg (by omega), if_neg (fun e => hx e.symm)]; rfl
  | x :: t, v, r + 1, hr, h1, h2, hn => by
    have h := h1 0 (by omega)
    have h' : x < v := by simpa using h
    rw [insW, if_pos h', insW_new (r := r) (by simpa using hr) (fun k hk => by simpa using h1 (k + 1) (by omega)) (fun k hk hl => by simpa using h2 (k + 1) (by omega) (by simpa using hl)) fun e => hn (List.mem_cons_of_mem _ e)]
    rfl
structure Ctl where
  round : Int
  back : Bool
  seq : Int
  target : List Int
  known : List Int
  waiting : List Int
  sent : List Int
def absM (m : Mach) : Ctl := ⟨m.round, m.back, m.seq, m.target.xs, m.known.xs, m.waiting.xs, m.sent.xs⟩
def rdsM (m : Mach) : List (List Chg) := m.rounds.xs.map fun l => l.xs
def stsM (m : Mach) : List (List Int) := m.states.xs.map fun l => l.xs
theorem rds_len (m : Mach) : (rdsM m).length = m.rounds.xs.length := List.length_map _
theorem sts_len (m : Mach) : (stsM m).length = m.states.xs.length := List.length_map _
theorem rds_at (m : Mach) (k : Nat) : (rdsM m).getD k [] = (m.rounds.xs.getD k (slE chgE).dflt).xs := by
  unfold rdsM
  rw [List.getD_eq_getElem?_getD, List.getD_eq_getElem?_getD, List.getElem?_map]
  cases m.rounds.xs[k]? <;> rfl
theorem sts_at (m : Mach) (k : Nat) : (stsM m).getD k [] = (m.states.xs.getD k (slE intE).dflt).xs := by
  unfold stsM
  rw [List.getD_eq_getElem?_getD, List.getD_eq_getElem?_getD, List.getElem?_map]
  cases m.states.xs[k]? <;> rfl
def Asc (n : Nat) (l : List Int) : Prop := l.Pairwise (· < ·) ∧ ∀ x ∈ l, 0 ≤ x ∧ x < n
structure PlanOK (n : Nat) (rds : List (List Chg)) (sts : List (List Int)) : Prop where
  n0 : 1 ≤ n
  n1 : n ≤ 1000
  r1 : rds.length ≤ 16
  s1 : sts.length = rds.length + 1
  rd : ∀ l ∈ rds, l.length ≤ 1000 ∧ ∀ x ∈ l, 0 ≤ x.dev ∧ x.dev < n
  st : ∀ l ∈ sts, l.length = n
structure CtlOK (n R : Nat) (c : Ctl) : Prop where
  tg : c.target.length = n
  kn : c.known.length = n
  wt : Asc n c.waiting
  rd : -1 ≤ c.round ∧ c.round ≤ R
  sq : 0 ≤ c.seq ∧ (c.back = false → c.seq ≤ c.round + 1 ∧ 0 ≤ c.round) ∧ (c.back = true → c.seq + c.round ≤ 2 * R + 2)
theorem CtlOK.sqb {n R : Nat} {c : Ctl} (h : CtlOK n R c) (hR : R ≤ 16) : 0 ≤ c.seq ∧ c.seq ≤ 40 := by
  have h1 := h.rd
  obtain ⟨h2, h3, h4⟩ := h.sq
  cases hb : c.back
  · have := h3 hb; omega
  · have := h4 hb; omega
theorem asc_len {n : Nat} : ∀ {l : List Int} {b : Int}, 0 ≤ b → b ≤ n → l.Pairwise (· < ·) → (∀ x ∈ l, b ≤ x ∧ x < n) → (l.length : Int) ≤ n - b
  | [], b, _, h, _, _ => by simp; omega
  | x :: t, b, h0, h, hp, hx => by
    rw [List.pairwise_cons] at hp
    have h1 := hx x List.mem_cons_self
    have := asc_len (l := t) (b := x + 1) (by omega) (by omega) hp.2 fun y hy => ⟨by have := hp.1 y hy; omega, (hx y (List.mem_cons_of_mem _ hy)).2⟩
    simp only [List.length_cons]; omega
theorem Asc.len {n : Nat} {l : List Int} (h : Asc n l) : l.length ≤ n := by
  have := asc_len (Int.le_refl 0) (by omega) h.1 h.2
  omega
theorem mem_insW : ∀ {l : List Int} {v x : Int}, x ∈ insW l v → x = v ∨ x ∈ l
  | [], v, x, h => by simp [insW] at h; exact .inl h
  | y :: t, v, x, h => by
    rw [insW] at h
    split at h
    · rcases List.mem_cons.1 h with rfl | h
      · exact .inr List.mem_cons_self
      · exact (mem_insW h).imp id fun h => List.mem_cons_of_mem _ h
    · split at h
      · exact .inr h
      · rcases List.mem_cons.1 h with rfl | h
        · exact .inl rfl
        · exact .inr h
theorem insW_pw : ∀ {l : List Int} {v : Int}, l.Pairwise (· < ·) → (insW l v).Pairwise (· < ·)
  | [], v, _ => by simp [insW]
  | y :: t, v, h => by
    have h' := h
    rw [List.pairwise_cons] at h
    rw [insW]
    split
    · rename_i hy
      rw [List.pairwise_cons]
      refine ⟨fun z hz => ?_, insW_pw h.2⟩
      rcases mem_insW hz with rfl | hz
      · exact hy
      · exact h.1 z hz
    · split
      · exact h'
      · rename_i h1 h2
        rw [List.pairwise_cons]
        refine ⟨fun z hz => ?_, h'⟩
        rcases List.mem_cons.1 hz with rfl | hz
        · omega
        · have := h.1 z hz; omega
theorem Asc.ins {n : Nat} {l : List Int} (h : Asc n l) {v : Int} (h0 : 0 ≤ v) (h1 : v < n) : Asc n (insW l v) :=
  ⟨insW_pw h.1, fun x hx => (mem_insW hx).elim (fun e => by subst e; exact ⟨h0, h1⟩) (h.2 x)⟩
theorem Asc.filt {n : Nat} {l : List Int} (h : Asc n l) (p : Int → Bool) : Asc n (l.filter p) := ⟨h.1.filter p, fun x hx => h.2 x (List.mem_filter.1 hx).1⟩
/-- one change of the round that is started -/
def chgC (st : List Int) (c : Ctl) (x : Chg) : Ctl := {c with target := c.target.set x.dev.toNat (if c.back = true then st.getD x.dev.toNat 0 else x.ver), waiting := insW c.waiting x.dev}
def startC (rds : List (List Chg)) (sts : List (List Int)) (c : Ctl) : Ctl :=
  if c.round < 0 ∨ (rds.length : Int) ≤ c.round then c else
    let c1 := (rds.getD c.round.toNat []).foldl (chgC (sts.getD c.round.toNat [])) {c with seq := c.seq + 1}
    {c1 with sent := c1.sent ++ c1.waiting}
/-- what stands while changes are made -/
structure ChgK (n : Nat) (c c1 : Ctl) : Prop where
  rd : c1.round = c.round
  bk : c1.back = c.back
  sq : c1.seq = c.seq
  kn : c1.known = c.known
  sn : c1.sent = c.sent
  tg : c1.target.length = c.target.length
  wt : Asc n c1.waiting
theorem ChgK.refl {n : Nat} {c : Ctl} (h : Asc n c.waiting) : ChgK n c c := ⟨rfl, rfl, rfl, rfl, rfl, rfl, h⟩
theorem ChgK.chg {n : Nat} {c c1 : Ctl} {st : List Int} {x : Chg} (h : ChgK n c c1) (h0 : 0 ≤ x.dev) (h1 : x.dev < n) : ChgK n c (chgC st c1 x) :=
  ⟨h.rd, h.bk, h.sq, h.kn, h.sn, by simp [chgC, h.tg], h.wt.ins h0 h1⟩
theorem foldl_chgK {n : Nat} {c : Ctl} {st : List Int} : ∀ (l : List Chg) {c1 : Ctl}, ChgK n c c1 → (∀ x ∈ l, 0 ≤ x.dev ∧ x.dev < n) → ChgK n c (l.foldl (chgC st) c1)
  | [], _, h, _ => h
  | x :: t, _, h, hx => foldl_chgK t (h.chg (hx x List.mem_cons_self).1 (hx x List.mem_cons_self).2) fun y hy => hx y (List.mem_cons_of_mem _ hy)
theorem foldl_take {α β : Type} (f : β → α → β) (b : β) (l : List α) (d : α) {k : Nat} (h : k < l.length) : (l.take (k + 1)).foldl f b = f ((l.take k).foldl f b) (l.getD k d) := by
  rw [List.take_succ_eq_append_getElem h, List.foldl_append, show l.getD k d = l[k] from by rw [List.getD_eq_getElem?_getD, List.getElem?_eq_getElem h]; rfl]
  rfl
def MachOK (m : Mach) : Prop := PlanOK m.target.xs.length (rdsM m) (stsM m) ∧ CtlOK m.target.xs.length (rdsM m).length (absM m)
theorem rd_of {n : Nat} {rds : List (List Chg)} {sts : List (List Int)} (P : PlanOK n rds sts) {k : Nat} (h : k < rds.length) : (rds.getD k []).length ≤ 1000 ∧ ∀ x ∈ rds.getD k [], 0 ≤ x.dev ∧ x.dev < n := P.rd _ (getD_mem h)
theorem st_of {n : Nat} {rds : List (List Chg)} {sts : List (List Int)} (P : PlanOK n rds sts) {k : Nat} (h : k ≤ rds.length) : (sts.getD k []).length = n := P.st _ (getD_mem (by have := P.s1; omega))
def KeepM (m m1 : Mach) : Prop := m1.rounds = m.rounds ∧ m1.states = m.states
end Go.Proofs.Ytobggnpnochnnaa.V
namespace Go.Proofs.Ytobggnpnochnnaa.V
open Go.RowKit Go.Proofs.Ytobggnpnochnnaa
theorem mixed : Try.prog.follows .mixedOrders = true := by kernel_rfl
theorem cB19 : Callable Try.prog 19 := ⟨_, Try.func19, by kernel_rfl, by kernel_rfl⟩
theorem cB20 : Callable Try.prog 20 := ⟨_, Try.func20, by kernel_rfl, by kernel_rfl⟩
theorem cB21 : Callable Try.prog 21 := ⟨_, Try.func21, by kernel_rfl, by kernel_rfl⟩
theorem cB22 : Callable Try.prog 22 := ⟨_, Try.func22, by kernel_rfl, by kernel_rfl⟩
theorem cB23 : Callable Try.prog 23 := ⟨_, Try.func23, by kernel_rfl, by kernel_rfl⟩
theorem cB24 : Callable Try.prog 24 := ⟨_, Try.func24, by kernel_rfl, by kernel_rfl⟩
theorem cB25 : Callable Try.prog 25 := ⟨_, Try.func25, by kernel_rfl, by kernel_rfl⟩
theorem cB26 : Callable Try.prog 26 := ⟨_, Try.func26, by kernel_rfl, by kernel_rfl⟩
theorem cB29 : Callable Try.prog 29 := ⟨_, Try.func29, by kernel_rfl, by kernel_rfl⟩
theorem cB30 : Callable Try.prog 30 := ⟨_, Try.func30, by kernel_rfl, by kernel_rfl⟩
theorem cB31 : Callable Try.prog 31 := ⟨_, Try.func31, by kernel_rfl, by kernel_rfl⟩
theorem cB32 : Callable Try.prog 32 := ⟨_, Try.func32, by kernel_rfl, by kernel_rfl⟩
theorem cB33 : Callable Try.prog 33 := ⟨_, Try.func33, by kernel_rfl, by kernel_rfl⟩
theorem cB34 : Callable Try.prog 34 := ⟨_, Try.func34, by kernel_rfl, by kernel_rfl⟩
theorem cB35 : Callable Try.prog 35 := ⟨_, Try.func35, by kernel_rfl, by kernel_rfl⟩
theorem cB36 : Callable Try.prog 36 := ⟨_, Try.func36, by kernel_rfl, by kernel_rfl⟩
theorem cB37 : Callable Try.prog 37 := ⟨_, Try.func37, by kernel_rfl, by kernel_rfl⟩
theorem cB38 : Callable Try.prog 38 := ⟨_, Try.func38, by kernel_rfl, by kernel_rfl⟩
theorem cB39 : Callable Try.prog 39 := ⟨_, Try.func39, by kernel_rfl, by kernel_rfl⟩
theorem cB40 : Callable Try.prog 40 := ⟨_, Try.func40, by kernel_rfl, by kernel_rfl⟩
theorem cB61 : Callable Try.prog 61 := ⟨_, Try.func61, by kernel_rfl, by kernel_rfl⟩
theorem cB62 : Callable Try.prog 62 := ⟨_, Try.func62, by kernel_rfl, by kernel_rfl⟩
theorem cB63 : Callable Try.prog 63 := ⟨_, Try.func63, by kernel_rfl, by kernel_rfl⟩
theorem cB64 : Callable Try.prog 64 := ⟨_, Try.func64, by kernel_rfl, by kernel_rfl⟩
theorem cB65 : Callable Try.prog 65 := ⟨_, Try.func65, by kernel_rfl, by kernel_rfl⟩
theorem cB66 : Callable Try.prog 66 := ⟨_, Try.func66, by kernel_rfl, by kernel_rfl⟩
theorem cB67 : Callable Try.prog 67 := ⟨_, Try.func67, by kernel_rfl, by kernel_rfl⟩
theorem cB68 : Callable Try.prog 68 := ⟨_, Try.func68, by kernel_rfl, by kernel_rfl⟩
theorem cB69 : Callable Try.prog 69 := ⟨_, Try.func69, by kernel_rfl, by kernel_rfl⟩
theorem cB71 : Callable Try.prog 71 := ⟨_, Try.func71, by kernel_rfl, by kernel_rfl⟩
theorem cB72 : Callable Try.prog 72 := ⟨_, Try.func72, by kernel_rfl, by kernel_rfl⟩
theorem cB73 : Callable Try.prog 73 := ⟨_, Try.func73, by kernel_rfl, by kernel_rfl⟩
theorem cB74 : Callable Try.prog 74 := ⟨_, Try.func74, by kernel_rfl, by kernel_rfl⟩
theorem cB75 : Callable Try.prog 75 := ⟨_, Try.func75, by kernel_rfl, by kernel_rfl⟩
theorem cB76 : Callable Try.prog 76 := ⟨_, Try.func76, by kernel_rfl, by kernel_rfl⟩
theorem cB77 : Callable Try.prog 77 := ⟨_, Try.func77, by kernel_rfl, by kernel_rfl⟩
theorem cB86 : Callable Try.prog 86 := ⟨_, Try.func86, by kernel_rfl, by kernel_rfl⟩
theorem cB87 : Callable Try.prog 87 := ⟨_, Try.func87, by kernel_rfl, by kernel_rfl⟩
theorem cB92 : Callable Try.prog 92 := ⟨_, Try.func92, by kernel_rfl, by kernel_rfl⟩
theorem cB94 : Callable Try.prog 94 := ⟨_, Try.func94, by kernel_rfl, by kernel_rfl⟩
theorem cB95 : Callable Try.prog 95 := ⟨_, Try.func95, by kernel_rfl, by kernel_rfl⟩
theorem cB103 : Callable Try.prog 103 := ⟨_, Try.func103, by kernel_rfl, by kernel_rfl⟩
theorem cB104 : Callable Try.prog 104 := ⟨_, Try.func104, by kernel_rfl, by kernel_rfl⟩
theorem cB105 : Callable Try.prog 105 := ⟨_, Try.func105, by kernel_rfl, by kernel_rfl⟩
theorem cB106 : Callable Try.prog 106 := ⟨_, Try.func106, by kernel_rfl, by kernel_rfl⟩
theorem cB107 : Callable Try.prog 107 := ⟨_, Try.func107, by kernel_rfl, by kernel_rfl⟩
theorem cB108 : Callable Try.prog 108 := ⟨_, Try.func108, by kernel_rfl, by kernel_rfl⟩
theorem cB109 : Callable Try.prog 109 := ⟨_, Try.func109, by kernel_rfl, by kernel_rfl⟩
theorem cB110 : Callable Try.prog 110 := ⟨_, Try.func110, by kernel_rfl, by kernel_rfl⟩
theorem cB116 : Callable Try.prog 116 := ⟨_, Try.func116, by kernel_rfl, by kernel_rfl⟩
theorem cB117 : Callable Try.prog 117 := ⟨_, Try.func117, by kernel_rfl, by kernel_rfl⟩
theorem cB119 : Callable Try.prog 119 := ⟨_, Try.func119, by kernel_rfl, by kernel_rfl⟩
theorem cB120 : Callable Try.prog 120 := ⟨_, Try.func120, by kernel_rfl, by kernel_rfl⟩
theorem cB121 : Callable Try.prog 121 := ⟨_, Try.func121, by kernel_rfl, by kernel_rfl⟩
theorem cB122 : Callable Try.prog 122 := ⟨_, Try.func122, by kernel_rfl, by kernel_rfl⟩
theorem cB124 : Callable Try.prog 124 := ⟨_, Try.func124, by kernel_rfl, by kernel_rfl⟩
theorem cB126 : Callable Try.prog 126 := ⟨_, Try.func126, by kernel_rfl, by kernel_rfl⟩
theorem cB127 : Callable Try.prog 127 := ⟨_, Try.func127, by kernel_rfl, by kernel_rfl⟩
theorem cB130 : Callable Try.prog 130 := ⟨_, Try.func130, by kernel_rfl, by kernel_rfl⟩
theorem cB131 : Callable Try.prog 131 := ⟨_, Try.func131, by kernel_rfl, by kernel_rfl⟩
theorem cB134 : Callable Try.prog 134 := ⟨_, Try.func134, by kernel_rfl, by kernel_rfl⟩
def zero_3 : Value := .int .i64 0
theorem iZ3 : (Try.prog.info? 3).map (fun i => (i.zero, i.size, i.bytes)) = some (some zero_3, 1, 8) := by kernel_rfl
def zero_5 : Value := .int .u8 0
theorem iZ5 : (Try.prog.info? 5).map (fun i => (i.zero, i.size, i.bytes)) = some (some zero_5, 1, 1) := by kernel_rfl
def zero_22 : Value := .slice none 0 0
theorem iZ22 : (Try.prog.info? 22).map (fun i => (i.zero, i.size, i.bytes)) = some (some zero_22, 1, 24) := by kernel_rfl
def zero_24 : Value := .agg #[.int .i64 0, .int .i64 0, .int .i64 0, .int .i64 0]
theorem iZ24 : (Try.prog.info? 24).map (fun i => (i.zero, i.size, i.bytes)) = some (some zero_24, 4, 32) := by kernel_rfl
def zero_47 : Value := .agg #[.bool false, .slice none 0 0]
theorem iZ47 : (Try.prog.info? 47).map (fun i => (i.zero, i.size, i.bytes)) = some (some zero_47, 2, 32) := by kernel_rfl
def zero_57 : Value := .agg #[.int .i64 0, .bool false, .int .i64 0, .slice none 0 0, .slice none 0 0, .slice none 0 0]
theorem iZ57 : (Try.prog.info? 57).map (fun i => (i.zero, i.size, i.bytes)) = some (some zero_57, 6, 96) := by kernel_rfl
def zero_122 : Value := .slice none 0 0
theorem iZ122 : (Try.prog.info? 122).map (fun i => (i.zero, i.size, i.bytes)) = some (some zero_122, 1, 24) := by kernel_rfl
def zero_124 : Value := .agg #[.int .i64 0, .int .i64 0]
theorem iZ124 : (Try.prog.info? 124).map (fun i => (i.zero, i.size, i.bytes)) = some (some zero_124, 2, 16) := by kernel_rfl
theorem sC3 : Scalar Try.prog 3 := ⟨_, Try.underlying3, rfl⟩
theorem sC4 : Scalar Try.prog 4 := ⟨_, Try.underlying4, rfl⟩
theorem sC5 : Scalar Try.prog 5 := ⟨_, Try.underlying5, rfl⟩
theorem sC22 : Scalar Try.prog 22 := ⟨_, Try.underlying22, rfl⟩
theorem wD24 : Wide Try.prog 24 4 := ⟨_, Try.underlying24, rfl, by kernel_rfl⟩
theorem sC32 : Scalar Try.prog 32 := ⟨_, Try.underlying32, rfl⟩
theorem sC45 : Scalar Try.prog 45 := ⟨_, Try.underlying45, rfl⟩
theorem wD47 : Wide Try.prog 47 2 := ⟨_, Try.underlying47, rfl, by kernel_rfl⟩
theorem wD57 : Wide Try.prog 57 6 := ⟨_, Try.underlying57, rfl, by kernel_rfl⟩
theorem sC66 : Scalar Try.prog 66 := ⟨_, Try.underlying66, rfl⟩
theorem sC122 : Scalar Try.prog 122 := ⟨_, Try.underlying122, rfl⟩
theorem wD124 : Wide Try.prog 124 2 := ⟨_, Try.underlying124, rfl, by kernel_rfl⟩
theorem sC125 : Scalar Try.prog 125 := ⟨_, Try.underlying125, rfl⟩
theorem sZ3 : (Try.prog.info? 3).map (·.size) = some 1 := by kernel_rfl
theorem sZ5 : (Try.prog.info? 5).map (·.size) = some 1 := by kernel_rfl
theorem sZ24 : (Try.prog.info? 24).map (·.size) = some 4 := by kernel_rfl
theorem sZ122 : (Try.prog.info? 122).map (·.size) = some 1 := by kernel_rfl
theorem sZ22 : (Try.prog.info? 22).map (·.size) = some 1 := by kernel_rfl
theorem sZ124 : (Try.prog.info? 124).map (·.size) = some 2 := by kernel_rfl
abbrev uT3 := @Try.underlying3
abbrev uT4 := @Try.underlying4
abbrev uT5 := @Try.underlying5
abbrev uT9 := @Try.underlying9
abbrev uT22 := @Try.underlying22
abbrev uT24 := @Try.underlying24
abbrev uT28 := @Try.underlying28
abbrev uT32 := @Try.underlying32
abbrev uT40 := @Try.underlying40
abbrev uT45 := @Try.underlying45
abbrev uT47 := @Try.underlying47
abbrev uT52 := @Try.underlying52
abbrev uT57 := @Try.underlying57
abbrev uT66 := @Try.underlying66
abbrev uT89 := @Try.underlying89
abbrev uT112 := @Try.underlying112
abbrev uT115 := @Try.underlying115
abbrev uT118 := @Try.underlying118
abbrev uT122 := @Try.underlying122
abbrev uT124 := @Try.underlying124
abbrev uT125 := @Try.underlying125
abbrev uT129 := @Try.underlying129
abbrev uT141 := @Try.underlying141
abbrev uT166 := @Try.underlying166
end Go.Proofs.Ytobggnpnochnnaa.V
set_option linter.unusedVariables false
set_option linter.unusedSimpArgs false
namespace Go.Proofs.Ytobggnpnochnnaa.V
open Go.RowKit Go.Shelf
def renDf : Go.Shelf.Ren := ⟨fun | 6 => 129 | 10 => 124 | n => n, fun | 0 => 0 | 3 => 3 | 4 => 4 | 22 => 22 | 23 => 3 | 25 => 171 | n => n, fun n => n⟩
theorem layDf : Go.Proofs.SlLaysH.n10 Try.prog renDf := {
  mixed := by kernel_rfl
  f6 := ⟨"slices.IndexFunc[[]int,int]", by decide, Try.func129.trans (congrArg some (by kernel_rfl))⟩
  f10 := ⟨"slices.DeleteFunc[[]int,int]", by decide, Try.func124.trans (congrArg some (by kernel_rfl))⟩
  t0 := Try.underlying0
  a0 := Try.isAgg0
  z0 := Try.sizeOf0
  v0 := Try.zeroValue0
  t3 := Try.underlying3
  a3 := Try.isAgg3
  z3 := Try.sizeOf3
  v3 := Try.zeroValue3
  t4 := Try.underlying4
  a4 := Try.isAgg4
  z4 := Try.sizeOf4
  v4 := Try.zeroValue4
  t22 := Try.underlying22
  a22 := Try.isAgg22
  z22 := Try.sizeOf22
  v22 := Try.zeroValue22
  a23 := Try.isAgg3
  z23 := Try.sizeOf3
  t25 := Try.underlying171
  a25 := Try.isAgg171
  z25 := Try.sizeOf171
  v25 := Try.zeroValue171 }
theorem rm1 (b : Nat) (d x : Int) (W : World) (hc : W.cell? ⟨b, 0, none⟩ = some (.int .i64 d)) : Calls Try.prog 125 #[.int .i64 x, .pointer (some ⟨b, 0, none⟩)] W fun e w' => e = .returned (.bool (x == d)) ∧ w' = W := by
  have t3 := Try.underlying3
  have a3 := Try.isAgg3
  have z3 := Try.sizeOf3
  go_enter Try.func125, (show Try.f125.ntmps = 7 from rfl)
  go_wp2
  refine bodyPost_ret (v := .bool (x == d)) (by simp [results, Try.results125, go_sem]) rfl ?_
  exact ⟨rfl, rfl⟩
theorem cell_heap {w w' : World} {b : Nat} (h : w'.heap[b]? = w.heap[b]?) : w'.cell? ⟨b, 0, none⟩ = w.cell? ⟨b, 0, none⟩ := by simp [World.cell?, h]
abbrev encI (x : Int) : Value := .int .i64 x
theorem delDf (w : World) (b : Nat) (d : Int) (hK : Blk w.heap b [.int .i64 d] 3) (g cap : Nat) (xs : List Int) (cur : Array Value) (hg : w.heap[g]? = some (.cells cur 3 (0, 0))) (hcs : cur.toList.take xs.length = xs.map encI) (hsz : cur.size = cap) (hl : xs.length ≤ cap) (hm : cap ≤ maxLen) (hne : g ≠ b) :
    Calls Try.prog 124 #[.slice (some ⟨g, 0, none⟩) xs.length cap, .func (.func 125) #[] #[.pointer (some ⟨b, 0, none⟩)]] w fun e w' => e = .returned (.slice (some ⟨g, 0, none⟩) (xs.filter fun x => !(x == d)).length cap) ∧ ∃ q, w' = Sort.putRow encI (Sort.ahead w q) g 0 ((xs.filter fun x => !(x == d)) ++ List.replicate (xs.length - (xs.filter fun x => !(x == d)).length) 0).toArray := by
  have hc : w.cell? ⟨b, 0, none⟩ = some (.int .i64 d) := by unfold Blk at hK; simp [World.cell?, hK]
  have hblt : b < w.heap.size := hK.lt
  have hp : PredAt Try.prog 125 #[.pointer (some ⟨b, 0, none⟩)] encI (fun x => x == d) w := fun W x hb => by
    refine (rm1 b d x W ((cell_heap (hb.block b hblt)).trans hc)).mono ?_
    rintro e w' ⟨h1, h2⟩
    exact ⟨h1, 0, h2⟩
  have hpo : PredOver Try.prog 125 #[.pointer (some ⟨b, 0, none⟩)] encI (fun x => x == d) g 0 xs.toArray.size w := fun n os dk x _ => by
    have hb : (sortWorld encI w g 0 n dk os).heap[b]? = w.heap[b]? := by
      show ((w.heap.modify g _) ++ os)[b]? = _
      rw [Array.getElem?_append_left (by simpa using hblt), Array.getElem?_modify, if_neg hne]
    refine (rm1 b d x _ ((cell_heap hb).trans hc)).mono ?_
    rintro e w' ⟨h1, h2⟩
    exact ⟨h1, 0, h2⟩
  have hH : Sort.Holds encI w g 0 xs.toArray := fun j hj => by
    have hj' : j < xs.length := by simpa using hj
    have h1 : cur.toList[j]? = some (encI xs[j]) := by
      have : (cur.toList.take xs.length)[j]? = some (encI xs[j]) := by rw [hcs, List.getElem?_map, List.getElem?_eq_getElem hj']; rfl
      rwa [List.getElem?_take_of_lt hj'] at this
    have h2 : xs.toArray[j]! = xs[j] := by rw [getElem!_pos xs.toArray j hj]; simp
    rw [h2]
    constructor
    · simp [World.cell?, hg]; simpa using h1
    · simp [World.frozen?, hg]
  have key := Go.Proofs.AnyE.slices_DeleteFunc (P := Try.prog) (ρ := renDf) layDf encI (fun _ => rfl) (fun x => x == d) 125 #[.pointer (some ⟨b, 0, none⟩)] (enters_of Try.func125 (by decide) (show Try.f125.body = some _ from rfl)) 0 Try.zeroValue3 g 0 cap xs.toArray w hp hpo hH (by simp; unfold maxLen at hm; omega) (by simpa using hl)
  rw [show renDf.f 10 = 124 from rfl] at key
  simpa using key
theorem idx0 (b c : Nat) (w : World) : Calls Try.prog 129 #[.slice none 0 c, .func (.func 125) #[] #[.pointer (some ⟨b, 0, none⟩)]] w fun e w' => e = .returned (.int .i64 (-1)) ∧ w' = w := by
  have t22 := Try.underlying22
  have t3 := Try.underlying3
  go_enter Try.func129, (show Try.f129.ntmps = 19 from rfl)
  go_wp2
  go_loopg [8] 0 (fun _ s8 wr => s8 = .int .i64 0 ∧ wr = w)
  case atStart => exact ⟨rfl, rfl⟩
  case round =>
    obtain ⟨rfl, rfl⟩ := hrel
    go_wp2
    refine bodyPost_ret (v := .int .i64 (-1)) (by simp [results, Try.results129, go_sem]) rfl ?_
    exact ⟨rfl, rfl⟩
theorem del0 (b c : Nat) (w : World) : Calls Try.prog 124 #[.slice none 0 c, .func (.func 125) #[] #[.pointer (some ⟨b, 0, none⟩)]] w fun e w' => e = .returned (.slice none 0 c) ∧ w' = w := by
  have t22 := Try.underlying22
  have t3 := Try.underlying3
  have H := idx0 b c
  go_enter Try.func124, (show Try.f124.ntmps = 42 from rfl)
  go_wp2_with (go_at_call 129; refine (H _).mono ?_; rintro e w2 ⟨rfl, rfl⟩)
  refine bodyPost_ret (v := .slice none 0 c) (by simp [results, Try.results124, go_sem]) rfl ?_
  exact ⟨rfl, rfl⟩
theorem flat_int (x : List Int) : x.flatMap intE.cells = x.map encI := by
  induction x with
  | nil => rfl
  | cons y r ih => rw [List.flatMap_cons, ih]; rfl
theorem del_row {w : World} {F : Nat → Prop} {x_a : Option Addr} {x_c : Nat} {x : List Int} (M : MS [abk x_a] w) (R : Row intE 3 0 F [abk x_a] w x_a x_c x) (b : Nat) (d : Int) (hK : Blk w.heap b [.int .i64 d] 3) (hb : ¬ In [abk x_a] b) :
    Calls Try.prog 124 #[.slice x_a x.length x_c, .func (.func 125) #[] #[.pointer (some ⟨b, 0, none⟩)]] w fun e w' => ∃ (ra : Option Addr) (rc : Nat), e = .returned (.slice ra (x.filter fun y => !(y == d)).length rc) ∧ Row intE 3 0 F [abk ra] w' ra rc (x.filter fun y => !(y == d)) ∧ Tr [abk x_a] w [abk ra] w' := by
  have hlen : (x.filter fun y => !(y == d)).length ≤ x.length := List.length_filter_le _ _
  rcases R.own.2 with ⟨h1, h2⟩ | ⟨g, c, cur, h1, _, h3, h4, h5, h6, h7⟩
  · injection h1 with e1 e2 e3
    subst e1 e3
    have hx : x = [] := List.eq_nil_of_length_eq_zero h2
    subst hx
    refine (del0 b 0 w).mono ?_
    rintro e w2 ⟨rfl, rfl⟩
    exact ⟨none, 0, rfl, R, Tr.refl M⟩
  · injection h1 with e1 e2 e3
    subst e1 e3
    have hne : g ≠ b := fun e => hb (.inl (by subst e; rfl))
    have hm : intE.n = 1 := rfl
    rw [hm, Nat.mul_one] at h6 h7
    rw [flat_int] at h7
    refine (delDf w b d hK g x_c x cur h3 h7 h6 h4 h5 hne).mono ?_
    rintro e w2 ⟨rfl, q, rfl⟩
    obtain ⟨ys, hys⟩ : ∃ ys, (x.filter fun y => !(y == d)) = ys := ⟨_, rfl⟩
    rw [hys] at hlen ⊢
    obtain ⟨zs, hzs⟩ : ∃ zs, (ys ++ List.replicate (x.length - ys.length) 0).toArray = zs := ⟨_, rfl⟩
    have hg : (Sort.putRow encI (Sort.ahead w q) g 0 zs).heap[g]? = some (.cells (Sort.putCells encI 0 zs cur) 3 (0, 0)) := by
      show (w.heap.modify g _)[g]? = _
      rw [Array.getElem?_modify, if_pos rfl, h3]; rfl
    have hch : Ch (In [abk (some ⟨g, 0, none⟩)]) w (Sort.putRow encI (Sort.ahead w q) g 0 zs) := by
      refine ⟨rfl, rfl, rfl, ?_, fun k hk hn => ?_⟩
      · show w.heap.size ≤ (w.heap.modify g _).size
        rw [Array.size_modify]; exact Nat.le_refl _
      · show (w.heap.modify g _)[k]? = _
        rw [Array.getElem?_modify, if_neg fun e => hn (.inl (by subst e; rfl))]
    rw [hzs]
    have T := Tr.of_ch M hch fun o ho => ho
    refine ⟨some ⟨g, 0, none⟩, x_c, rfl, ⟨⟨by rw [flat_int, List.length_map, hm, Nat.mul_one], .inr ⟨g, x_c, _, rfl, Nat.zero_le _, hg, by omega, h5, ?_, ?_⟩⟩, fun y hy => ?_⟩, T⟩
    · simp [Sort.putCells, hm, h6]
    · rw [flat_int, hm, Nat.mul_one]
      apply List.ext_getElem?
      intro i
      rcases Nat.lt_or_ge i ys.length with hi | hi
      · have hic : i < cur.size := by omega
        have hzz : i < zs.size := by rw [← hzs]; simp; omega
        have hz : zs[i] = ys[i] := by
          subst hzs
          simp [List.getElem_append_left hi]
        rw [List.getElem?_take_of_lt hi, List.getElem?_map, List.getElem?_eq_getElem hi]
        simp [Sort.putCells, hic, hzz, hz]
      · rw [List.getElem?_eq_none (by simp; omega), List.getElem?_eq_none (by simp; omega)]
    · have : y ∈ x := by rw [← hys] at hy; exact (List.mem_filter.1 hy).1
      exact R.wf y this

end Go.Proofs.Ytobggnpnochnnaa.V
set_option linter.unusedVariables false
set_option linter.unusedSimpArgs false
namespace Go.Proofs.Ytobggnpnochnnaa.V
open Go.RowKit Go.Shelf
def renIn : Go.Shelf.Ren := ⟨fun | 21 => 127 | 27 => 132 | 28 => 133 | 35 => 135 | 39 => 136 | n => n, fun | 0 => 0 | 3 => 3 | 4 => 4 | 22 => 22 | n => n, fun n => n⟩
theorem layIn : Lays2.n21 Try.prog renIn := {
  mixed := by kernel_rfl
  f21 := Try.func127.trans (congrArg some (by kernel_rfl))
  f27 := Try.func132.trans (congrArg some (by kernel_rfl))
  f28 := Try.func133.trans (congrArg some (by kernel_rfl))
  f35 := Try.func135.trans (congrArg some (by kernel_rfl))
  f39 := Try.func136.trans (congrArg some (by kernel_rfl))
  t0 := Try.underlying0
  a0 := Try.isAgg0
  z0 := Try.sizeOf0
  v0 := Try.zeroValue0
  t3 := Try.underlying3
  a3 := Try.isAgg3
  z3 := Try.sizeOf3
  v3 := Try.zeroValue3
  t4 := Try.underlying4
  a4 := Try.isAgg4
  z4 := Try.sizeOf4
  v4 := Try.zeroValue4
  t22 := Try.underlying22
  a22 := Try.isAgg22
  z22 := Try.sizeOf22
  v22 := Try.zeroValue22
  i3 := by kernel_rfl }
theorem sc_rest (b : Nat) : ∀ (vs : List Value) (o : Nat) (w : World), (w.setCells b o vs).os = w.os ∧ (w.setCells b o vs).tape = w.tape ∧ (w.setCells b o vs).output = w.output ∧ (w.setCells b o vs).heap.size = w.heap.size ∧ ∀ k, k ≠ b → (w.setCells b o vs).heap[k]? = w.heap[k]?
  | [], _, _ => ⟨rfl, rfl, rfl, rfl, fun _ _ => rfl⟩
  | v :: r, o, w => by
    obtain ⟨h1, h2, h3, h4, h5⟩ := sc_rest b r (o + 1) (w.setCell ⟨b, o, none⟩ v)
    rw [World.setCells]
    exact ⟨h1.trans rfl, h2.trans rfl, h3.trans rfl, h4.trans (by simp [World.setCell]), fun k hk => (h5 k hk).trans (heap_setCell_other w ⟨b, o, none⟩ k v hk)⟩
theorem sc_heap (b : Nat) (t : TypeId) : ∀ (vs : List Value) (o : Nat) (w : World) (cur : Array Value), w.heap[b]? = some (.cells cur t (0, 0)) → o + vs.length ≤ cur.size → ∃ cur' : Array Value, (w.setCells b o vs).heap[b]? = some (.cells cur' t (0, 0)) ∧ cur'.toList = cur.toList.take o ++ vs ++ cur.toList.drop (o + vs.length)
  | [], o, w, cur, h, _ => ⟨cur, h, by simp⟩
  | v :: r, o, w, cur, h, hl => by
    rw [World.setCells]
    rw [List.length_cons] at hl
    obtain ⟨c', h1, h2⟩ := sc_heap b t r (o + 1) _ _ (heap_setCell_same w b o cur t v h) (by simp; omega)
    refine ⟨c', h1, h2.trans ?_⟩
    have ho : o < cur.toList.length := by simp; omega
    have e : (cur.setIfInBounds o v).toList = cur.toList.set o v := by simp
    rw [e, List.length_cons, List.take_add_one, List.take_set_of_le (Nat.le_refl _), List.getElem?_set_self ho, List.drop_set_of_lt (by omega), show o + 1 + r.length = o + (r.length + 1) from by omega]
    simp
theorem insA {L0 cs vs : List Value} {k : Nat} (hk : k ≤ cs.length) (hv : vs.length = 1) (h0 : L0.take cs.length = cs) (hl : cs.length + 1 ≤ L0.length) :
    ((L0.take (k + 1) ++ cs.drop k ++ L0.drop (k + 1 + (cs.drop k).length)).take k ++ vs ++ (L0.take (k + 1) ++ cs.drop k ++ L0.drop (k + 1 + (cs.drop k).length)).drop (k + vs.length)).take (cs.length + 1) = cs.take k ++ vs ++ cs.drop k := by
  have h1 : (L0.take (k + 1)).length = k + 1 := by rw [List.length_take]; omega
  have h2 : (cs.drop k).length = cs.length - k := List.length_drop
  have h3 : L0.take k = cs.take k := by
    have := congrArg (List.take k) h0
    rw [List.take_take] at this
    rwa [show min k cs.length = k from by omega] at this
  have h4 : (cs.take k).length = k := by rw [List.length_take]; omega
  obtain ⟨X, hX⟩ : ∃ X, L0.drop (k + 1 + (cs.drop k).length) = X := ⟨_, rfl⟩
  rw [hX, hv]
  have hA : (L0.take (k + 1) ++ cs.drop k ++ X).take k = cs.take k := by
    rw [List.append_assoc, List.take_append_of_le_length (by omega), List.take_take, show min k (k + 1) = k from by omega, h3]
  have hB : (L0.take (k + 1) ++ cs.drop k ++ X).drop (k + 1) = cs.drop k ++ X := by
    rw [List.append_assoc]
    exact List.drop_left' h1
  rw [hA, hB, ← List.append_assoc]
  exact List.take_left' (by rw [List.length_append, List.length_append, h4, hv, h2]; omega)
theorem insB {L0 cs vs : List Value} {k : Nat} (hk : k ≤ cs.length) (hv : vs.length = 1) (h3 : L0.take k = cs.take k) (hl : cs.length + 1 ≤ L0.length) :
    ((L0.take k ++ vs ++ L0.drop (k + vs.length)).take (k + 1) ++ cs.drop k ++ (L0.take k ++ vs ++ L0.drop (k + vs.length)).drop (k + 1 + (cs.drop k).length)).take (cs.length + 1) = cs.take k ++ vs ++ cs.drop k := by
  have h2 : (cs.drop k).length = cs.length - k := List.length_drop
  have h4 : (cs.take k).length = k := by rw [List.length_take]; omega
  have h5 : (cs.take k ++ vs).length = k + 1 := by rw [List.length_append, h4, hv]
  rw [h3, List.take_left' h5]
  exact List.take_left' (by rw [List.length_append, h5, h2]; omega)
theorem ins_fin {w w' : World} {ms : List BS} {F : Nat → Prop} {g c : Nat} {cur : Array Value} {ys : List Int} (hch : Ch (In ms) w w') (hg : w'.heap[g]? = some (.cells cur 3 (0, 0))) (hgn : In ms g ∨ w.heap.size ≤ g) (hc : cur.size = c) (hm : c ≤ maxLen) (hl : ys.length ≤ c) (ht : cur.toList.take ys.length = ys.map encI) (hw : ∀ y ∈ ys, inI64 y) :
    Row intE 3 0 F [abk (some ⟨g, 0, none⟩)] w' (some ⟨g, 0, none⟩) c ys ∧ Tr ms w [abk (some ⟨g, 0, none⟩)] w' := by
  have hn : intE.n = 1 := rfl
  have hlt : g < w'.heap.size := by
    rcases Nat.lt_or_ge g w'.heap.size with h | h
    · exact h
    · rw [Array.getElem?_eq_none h] at hg; cases hg
  refine ⟨⟨⟨by rw [flat_int, List.length_map, hn, Nat.mul_one], .inr ⟨g, c, cur, rfl, Nat.zero_le _, hg, hl, hm, by rw [hn, Nat.mul_one]; exact hc, by rw [flat_int, hn, Nat.mul_one]; exact ht⟩⟩, fun y hy => hw y hy⟩, hch, fun k hk => ?_, fun k hk => ?_, ?_⟩
  · rcases hk with hk | hk
    · have e : g = k := Option.some.inj hk
      subst e; exact hgn
    · exact hk.elim
  · rcases hk with hk | hk
    · have e : g = k := Option.some.inj hk
      subst e; exact hlt
    · exact hk.elim
  · exact ⟨fun k _ h => h, trivial⟩
theorem enc1 (l : List Int) : ∀ v ∈ l.map encI, v.oneCell' = true := fun v hv => by
  obtain ⟨y, _, rfl⟩ := List.mem_map.1 hv
  rfl
theorem own_cell {w : World} {g : Nat} {cur : Array Value} {n : Nat} {xs : List Int} (h : w.heap[g]? = some (.cells cur 3 (0, 0))) (ht : cur.toList.take n = xs.map encI) (j : Nat) (v : Value) (hj : (xs.map encI)[j]? = some v) : w.cell? ⟨g, 0 + j, none⟩ = some v := by
  have hj0 : j < n := by
    have := congrArg List.length ht
    have h2 := (List.getElem?_eq_some_iff.1 hj).1
    rw [List.length_take] at this
    omega
  have h1 : cur.toList[j]? = some v := by rw [← List.getElem?_take_of_lt hj0, ht]; exact hj
  simp only [World.cell?, h, Nat.zero_add]
  simpa using h1
theorem own_some {w : World} {g : Nat} {cur : Array Value} (h : w.heap[g]? = some (.cells cur 3 (0, 0))) {j : Nat} (hj : j < cur.size) : (w.cell? ⟨g, j, none⟩).isSome = true := by
  simp [World.cell?, h, hj]
theorem own_fz {w : World} {g : Nat} {cur : Array Value} (h : w.heap[g]? = some (.cells cur 3 (0, 0))) (j : Nat) : w.frozen? ⟨g, j, none⟩ = false := by
  simp [World.frozen?, h]
theorem al_get (w : World) (o : Obj) : (w.drew.alloc o).heap[w.heap.size]? = some o := by
  show (w.heap.push o)[w.heap.size]? = _
  exact Array.getElem?_push_size
theorem al_ch {ms : List BS} (w : World) (o : Obj) : Ch (In ms) w (w.drew.alloc o) := by
  refine ⟨rfl, rfl, rfl, ?_, fun j hj _ => ?_⟩
  · show w.heap.size ≤ (w.heap.push o).size
    rw [Array.size_push]; exact Nat.le_succ _
  · show (w.heap.push o)[j]? = _
    rw [Array.getElem?_push, if_neg (by omega)]
theorem al_get2 (w : World) (o : Obj) : ((w.alloc o).drew).heap[w.heap.size]? = some o := al_get w o
theorem al_ch2 {ms : List BS} (w : World) (o : Obj) : Ch (In ms) w ((w.alloc o).drew) := let h := al_ch (ms := ms) w o; ⟨h.os, h.tape, h.output, h.size, h.block⟩
theorem z_size (n : Nat) : (Builtin.zeroCells (Value.int .i64 0).cells n).size = n := by
  unfold Builtin.zeroCells
  rw [Array.size_map, Array.size_range]
  exact Nat.mul_one n
set_option maxHeartbeats 4000000 in
set_option maxRecDepth 100000 in
theorem ins_row {w : World} {F : Nat → Prop} {x_a v_a : Option Addr} {x_c v_c : Nat} {x v : List Int} (M : MS [abk x_a, abk v_a] w) (R : Row intE 3 0 F [abk x_a, abk v_a] w x_a x_c x) (V : Row intE 3 0 F [abk x_a, abk v_a] w v_a v_c v) (i : Int) (hi : (0 ≤ i ∧ i ≤ x.length) ∧ v.length = 1 ∧ x.length ≤ 1000) :
    Calls Try.prog 127 #[.slice x_a x.length x_c, .int .i64 i, .slice v_a v.length v_c] w fun e w' => ∃ (ra : Option Addr) (rc : Nat), e = .returned (.slice ra (x.take i.toNat ++ v ++ x.drop i.toNat).length rc) ∧ Row intE 3 0 F [abk ra] w' ra rc (x.take i.toNat ++ v ++ x.drop i.toNat) ∧ Tr [abk x_a, abk v_a] w [abk ra] w' := by
  obtain ⟨⟨hi0, hi1⟩, hv1, hx1⟩ := hi
  obtain ⟨k, rfl⟩ := Int.eq_ofNat_of_zero_le hi0
  have hk : k ≤ x.length := by omega
  rw [Int.toNat_natCast]
  have hn : intE.n = 1 := rfl
  rcases V.own.2 with ⟨h1, h2⟩ | ⟨vg, vc, vcur, h1, _, vh, vl, vm, vs, vt⟩
  · omega
  injection h1 with e1 e2 e3
  subst e1 e3
  rw [hn, Nat.mul_one] at vs vt
  rw [flat_int] at vt
  have hlen : (x.take k ++ v ++ x.drop k).length = x.length + 1 := by rw [List.length_append, List.length_append, List.length_take, List.length_drop, hv1]; omega
  have hmap : (x.take k ++ v ++ x.drop k).map encI = (x.map encI).take k ++ v.map encI ++ (x.map encI).drop k := by rw [List.map_append, List.map_append, List.map_take, List.map_drop]
  have hwf : ∀ y ∈ x.take k ++ v ++ x.drop k, inI64 y := fun y hy => by
    rcases List.mem_append.1 hy with hy | hy
    · rcases List.mem_append.1 hy with hy | hy
      · exact R.wf y (List.mem_of_mem_take hy)
      · exact V.wf y hy
    · exact R.wf y (List.mem_of_mem_drop hy)
  have hvl : (v.map encI).length = v.length := List.length_map _
  have hxl : (x.map encI).length = x.length := List.length_map _
  have hv1' : (v.map encI).length = 1 := hvl.trans hv1
  have hvcell : ∀ j u, (v.map encI)[j]? = some u → w.cell? ⟨vg, 0 + j, none⟩ = some u := own_cell vh vt
  rw [hlen]
  rcases R.own.2 with ⟨h1, h2⟩ | ⟨g, c, cur, h1, _, h3, h4, h5, h6, h7⟩
  · injection h1 with e1 e2 e3
    subst e1 e3
    have hx : x = [] := List.eq_nil_of_length_eq_zero h2
    subst hx
    obtain rfl : k = 0 := by simpa using hk
    refine (Go.Proofs.Any2.slices_Insert_int_end_grow layIn none 0 0 vg 0 v.length v_c [] (v.map encI) w (by omega) (Nat.le_refl _) (by omega) (by rw [hv1]; decide) rfl hvl (fun _ => rfl) (fun a ha => by cases ha) hvcell (enc1 v)).mono ?_
    rintro e w' ⟨rfl, rfl⟩
    have hgc := grownCap_ge w (0 + v.length) 0 (renIn.t 3)
    have hgm := grownCap_le_maxLen w (0 + v.length) 0 (renIn.t 3) (by rw [hv1]; decide)
    refine ⟨some ⟨w.heap.size, 0, none⟩, _, by rw [hv1]; rfl, ins_fin (al_ch w _) (al_get w _) (.inr (Nat.le_refl _)) (by rw [Array.size_append, z_size, List.size_toArray, List.nil_append, hvl]; omega) hgm (by rw [hlen, List.length_nil]; omega) ?_ hwf⟩
    rw [hlen, hmap, Array.toList_append]
    exact (List.take_left' (l₁ := v.map encI) hv1').trans (by simp)
  · injection h1 with e1 e2 e3
    subst e1 e3
    rw [hn, Nat.mul_one] at h6 h7
    rw [flat_int] at h7
    have hne : vg ≠ g := fun e => M.sep.1 g rfl (.inl (by subst e; rfl))
    have hxcell : ∀ j u, (x.map encI)[j]? = some u → w.cell? ⟨g, 0 + j, none⟩ = some u := own_cell h3 h7
    have hc63 : x_c ≤ 9223372036854775807 := by unfold maxLen at h5; omega
    have hL : cur.toList.length = x_c := by simp [h6]
    have hin : In [abk (some ⟨g, 0, none⟩), abk (some ⟨vg, 0, none⟩)] g := .inl rfl
    have h0 : cur.toList.take (x.map encI).length = x.map encI := by rw [hxl]; exact h7
    have hgc := grownCap_ge w (x.length + v.length) x_c (renIn.t 3)
    have hgm := grownCap_le_maxLen w (x.length + v.length) x_c (renIn.t 3) (by unfold maxLen; omega)
    rcases Nat.lt_or_ge k x.length with hlt | hge
    · rcases Nat.lt_or_ge x_c (x.length + v.length) with hr | hr
      · refine (Go.Proofs.Any2.slices_Insert_int_grow layIn g 0 x.length x_c k vg 0 v.length v_c (x.map encI) (v.map encI) w hlt (by omega) h4 hr (by omega) hxl hvl hxcell hvcell (enc1 x) (enc1 v)).mono ?_
        rintro e w' ⟨rfl, rfl⟩
        obtain ⟨arr, harr⟩ : ∃ arr, (((x.map encI).take k).toArray ++ Builtin.zeroCells (Value.int .i64 0).cells (x.length + v.length - k) ++ Builtin.zeroCells (Value.int .i64 0).cells (grownCap w (x.length + v.length) x_c (renIn.t 3) - (x.length + v.length))) = arr := ⟨_, rfl⟩
        rw [harr]
        have hsz : arr.size = grownCap w (x.length + v.length) x_c (renIn.t 3) := by rw [← harr, Array.size_append, Array.size_append, z_size, z_size, List.size_toArray, List.length_take, hxl]; omega
        have ht : arr.toList.take k = (x.map encI).take k := by
          rw [← harr, Array.toList_append, Array.toList_append, List.append_assoc]
          exact List.take_left' (by simp; omega)
        have hb0 : ((w.alloc (.cells arr (renIn.t 3))).drew).heap[w.heap.size]? = some (.cells arr 3 (0, 0)) := al_get2 w _
        obtain ⟨c1, hb1, ht1⟩ := sc_heap w.heap.size 3 (v.map encI) k _ arr hb0 (by omega)
        have hc1 : c1.toList.length = arr.size := by rw [ht1]; simp; omega
        obtain ⟨c2, hb2, ht2⟩ := sc_heap w.heap.size 3 ((x.map encI).drop k) (k + v.length) (((w.alloc (.cells arr (renIn.t 3))).drew.setCells w.heap.size k (v.map encI)).drew) c1 hb1 (by rw [List.length_drop, hxl, ← Array.length_toList, hc1]; omega)
        have hc2 : c2.toList.length = arr.size := by rw [ht2]; simp only [List.length_append, List.length_take, List.length_drop, hxl, hc1]; omega
        obtain ⟨a1, a2, a3, a4, a5⟩ := sc_rest w.heap.size ((x.map encI).drop k) (k + v.length) (((w.alloc (.cells arr (renIn.t 3))).drew.setCells w.heap.size k (v.map encI)).drew)
        obtain ⟨b1, b2, b3, b4, b5⟩ := sc_rest w.heap.size (v.map encI) k ((w.alloc (.cells arr (renIn.t 3))).drew)
        refine ⟨some ⟨w.heap.size, 0, none⟩, _, by rw [hv1], ins_fin ⟨a1.trans b1, a2.trans b2, a3.trans b3, Nat.le_trans (al_ch2 (ms := []) w (.cells arr (renIn.t 3))).size (Nat.le_of_eq (a4.trans b4).symm), fun j hj _ => (a5 j (by omega)).trans ((b5 j (by omega)).trans ((al_ch2 (ms := []) w (.cells arr (renIn.t 3))).block j hj id))⟩ hb2 (.inr (Nat.le_refl _)) (by rw [← Array.length_toList, hc2, hsz]) hgm (by rw [hlen]; omega) ?_ hwf⟩
        rw [hlen, hmap, ht2, ht1, hv1, ← hxl]
        have := insB (L0 := arr.toList) (cs := x.map encI) (vs := v.map encI) (k := k) (by rw [hxl]; exact hk) hv1' ht (by have e : arr.toList.length = arr.size := Array.length_toList; rw [hxl]; omega)
        rw [hv1'] at this ⊢
        exact this
      · refine (Go.Proofs.Any2.slices_Insert_int_shift layIn g 0 x.length x_c k vg 0 v.length v_c (x.map encI) (v.map encI) w hlt (by omega) hr hc63 hne hxl hvl hxcell (fun j hj => by rw [Nat.zero_add]; exact own_some h3 (by omega)) (fun j _ => own_fz h3 _) hvcell (enc1 x) (enc1 v) 3 3 vcur.size cur.size (by simp [World.shape?, vh]) (by simp [World.shape?, h3]) (by omega) (own_fz vh _) (own_fz vh _)).mono ?_
        rintro e w' ⟨rfl, rfl⟩
        rw [Nat.zero_add, Nat.zero_add]
        obtain ⟨c1, hb1, ht1⟩ := sc_heap g 3 ((x.map encI).drop k) (k + v.length) w.drew cur h3 (by rw [List.length_drop, hxl]; omega)
        have hc1 : c1.toList.length = x_c := by rw [ht1]; simp only [List.length_append, List.length_take, List.length_drop, hxl, hL]; omega
        obtain ⟨c2, hb2, ht2⟩ := sc_heap g 3 (v.map encI) k (w.drew.setCells g (k + v.length) ((x.map encI).drop k)) c1 hb1 (by rw [hvl, ← Array.length_toList, hc1]; omega)
        have hc2 : c2.toList.length = x_c := by rw [ht2]; simp only [List.length_append, List.length_take, List.length_drop, hvl, hc1]; omega
        obtain ⟨a1, a2, a3, a4, a5⟩ := sc_rest g (v.map encI) k (w.drew.setCells g (k + v.length) ((x.map encI).drop k))
        obtain ⟨b1, b2, b3, b4, b5⟩ := sc_rest g ((x.map encI).drop k) (k + v.length) w.drew
        refine ⟨some ⟨g, 0, none⟩, x_c, by rw [hv1], ins_fin ⟨a1.trans b1, a2.trans b2, a3.trans b3, by rw [a4, b4]; exact Nat.le_refl _, fun j _ hjn => (a5 j fun e => hjn (by subst e; exact hin)).trans (b5 j fun e => hjn (by subst e; exact hin))⟩ hb2 (.inl hin) (by rw [← Array.length_toList, hc2]) h5 (by rw [hlen]; omega) ?_ hwf⟩
        rw [hlen, hmap, ht2, ht1, hv1, ← hxl]
        exact insA (by rw [hxl]; exact hk) hv1' h0 (by rw [hxl, hL]; omega)
    · obtain rfl : k = x.length := by omega
      have e1 : x.take x.length ++ v ++ x.drop x.length = x ++ v := by rw [List.take_length, List.drop_length, List.append_nil]
      have e2 : (x.map encI).take x.length ++ v.map encI ++ (x.map encI).drop x.length = x.map encI ++ v.map encI := by rw [List.take_of_length_le (by omega), List.drop_of_length_le (by omega), List.append_nil]
      rw [e2] at hmap
      rcases Nat.lt_or_ge x_c (x.length + v.length) with hr | hr
      · refine (Go.Proofs.Any2.slices_Insert_int_end_grow layIn (some ⟨g, 0, none⟩) x.length x_c vg 0 v.length v_c (x.map encI) (v.map encI) w (by omega) h4 hr (by omega) hxl hvl (fun h => by cases h) (fun b hb j u hj => by cases hb; have := hxcell j u hj; rw [Addr.add_lit]; exact this) hvcell (enc1 v)).mono ?_
        rintro e w' ⟨rfl, rfl⟩
        refine ⟨some ⟨w.heap.size, 0, none⟩, _, by rw [hv1], ins_fin (al_ch w _) (al_get w _) (.inr (Nat.le_refl _)) (by rw [Array.size_append, z_size, List.size_toArray, List.length_append, hxl, hvl]; omega) hgm (by rw [hlen]; omega) ?_ hwf⟩
        rw [hlen, hmap, Array.toList_append]
        exact List.take_left' (by simp [hv1])
      · refine (Go.Proofs.Any2.slices_Insert_int_end_room layIn g 0 x.length x_c vg 0 v.length v_c (v.map encI) w (by omega) hr hc63 hvl (fun j hj => own_some h3 (by omega)) (fun j _ => own_fz h3 _) hvcell (enc1 v)).mono ?_
        rintro e w' ⟨rfl, rfl⟩
        rw [Nat.zero_add]
        obtain ⟨c1, hb1, ht1⟩ := sc_heap g 3 (v.map encI) x.length w cur h3 (by omega)
        have hc1 : c1.toList.length = x_c := by rw [ht1]; simp only [List.length_append, List.length_take, List.length_drop, hvl, hL]; omega
        obtain ⟨a1, a2, a3, a4, a5⟩ := sc_rest g (v.map encI) x.length w
        refine ⟨some ⟨g, 0, none⟩, x_c, by rw [hv1], ins_fin ⟨a1, a2, a3, by rw [a4]; exact Nat.le_refl _, fun j _ hjn => a5 j fun e => hjn (by subst e; exact hin)⟩ hb1 (.inl hin) (by rw [← Array.length_toList, hc1]) h5 (by rw [hlen]; omega) ?_ hwf⟩
        rw [hlen, hmap, ht1, h7]
        exact List.take_left' (by rw [List.length_append, hxl, hv1'])
end Go.Proofs.Ytobggnpnochnnaa.V
set_option linter.unusedVariables false
set_option linter.unusedSimpArgs false
namespace Go.Proofs.Ytobggnpnochnnaa.V
open Go.RowKit
def crcBit (r : Int) : Int := if bAnd .u32 r 1 = 1 then bXor .u32 (sHr .u32 r 1) 3988292384 else sHr .u32 r 1
def crcRep : Nat → Int → Int
  | 0, r => r
  | k + 1, r => crcBit (crcRep k r)
def crcByte (r x : Int) : Int := crcRep 8 (bXor .u32 r x)
def crcReg (l : List Int) : Int := l.foldl crcByte 4294967295
def crcL (l : List Int) : Int := bXor .u32 4294967295 (crcReg l)
theorem crcReg_up {l : List Int} {k : Nat} (h : k < l.length) : crcReg (l.take (k + 1)) = crcByte (crcReg (l.take k)) (l.getD k 0) := by
  unfold crcReg
  rw [List.take_succ_eq_append_getElem h, List.foldl_append, show l.getD k 0 = l[k] from by rw [List.getD_eq_getElem?_getD, List.getElem?_eq_getElem h]; rfl]
  rfl
theorem crcL_in (l : List Int) : inU32 (crcL l) := wu32 _
section
variable {P : Program} {a : Act} {w : World} {d : Option Tmp} {ty : TypeId} {pos : String} {af : Array Edge} {g : Option (Nat × Bool)} {x : Operand} {xt : TypeId} {m : Int}
theorem x_cplu32 (hx : a.eval x = .int .u32 m) : (execOp a.eval ⟨d, .unOp .xor xt x, ty, pos, af, g⟩).run P w = .ok (.value (.int .u32 (bXor .u32 4294967295 m))) w := by
  simp [execOp, Op.unary, Op.intBits, hx, bXor, IntKind.signed, IntKind.max, IntKind.bits]
end
/-- a number of four bytes, the greatest first -/
def be4 (v : Int) : List Int := [v / 16777216 % 256, v / 65536 % 256, v / 256 % 256, v % 256]
def num4 (l : List Int) (k : Nat) : Int := l.getD k 0 * 16777216 + l.getD (k + 1) 0 * 65536 + l.getD (k + 2) 0 * 256 + l.getD (k + 3) 0
def encB (r : Rec) : List Int := [r.kind, r.dev] ++ be4 r.inc ++ be4 r.seq
def encR (r : Rec) : List Int := encB r ++ be4 (crcL (encB r))
def recOK (r : Rec) : Prop := (1 ≤ r.kind ∧ r.kind ≤ 4) ∧ (0 ≤ r.dev ∧ r.dev < 12) ∧ (0 ≤ r.inc ∧ r.inc ≤ 2147483647) ∧ (0 ≤ r.seq ∧ r.seq ≤ 2147483647) ∧ (r.kind = 2 → r.seq = 0) ∧ (r.kind = 3 → r.seq = 0 ∧ r.inc = 0) ∧ (r.kind = 4 → r.dev = 0 ∧ r.inc = 0 ∧ r.seq = 0)
instance (r : Rec) : Decidable (recOK r) := by unfold recOK; infer_instance
theorem be4_len (v : Int) : (be4 v).length = 4 := rfl
theorem encR_len (r : Rec) : (encR r).length = 14 := rfl
theorem sHr_q {k : IntKind} {v p q : Int} (h : (2 : Int) ^ (min p.toNat k.bits) = q) (hq : 0 < q) : sHr k v p = v / q := by
  unfold sHr
  rw [h, Int.fdiv_eq_ediv_of_nonneg _ (Int.le_of_lt hq)]
theorem wrap8 (v : Int) : IntKind.u8.wrap v = v % 256 := by
  unfold IntKind.wrap; simp [IntKind.signed, IntKind.bits]
/-! bits that do not meet -/
theorem bOr32 {x y : Nat} (i : Nat) (h : y < 2 ^ i) (hx : 2 ^ i * x + y < 4294967296) : bOr .u32 ((2 ^ i * x : Nat) : Int) (y : Int) = ((2 ^ i * x + y : Nat) : Int) := by
  unfold bOr
  have e : (BitVec.ofInt (IntKind.u32.bits) ((2 ^ i * x : Nat) : Int) ||| BitVec.ofInt (IntKind.u32.bits) (y : Int)).toNat = 2 ^ i * x + y := by
    rw [BitVec.ofInt_natCast, BitVec.ofInt_natCast, BitVec.toNat_or, BitVec.toNat_ofNat, BitVec.toNat_ofNat, show IntKind.u32.bits = 32 from rfl, Nat.mod_eq_of_lt (by omega), Nat.mod_eq_of_lt (by omega), Nat.two_pow_add_eq_or_of_lt h]
  rw [e]
  clear e h
  generalize 2 ^ i * x + y = z at hx ⊢
  unfold IntKind.wrap; simp [IntKind.signed, IntKind.bits]; omega
theorem sHl32 {x p : Int} {q : Int} (h : (2 : Int) ^ (min p.toNat IntKind.u32.bits) = q) (hx : 0 ≤ x * q ∧ x * q ≤ 4294967295) : sHl .u32 x p = x * q := by
  unfold sHl
  rw [h]
  generalize x * q = z at hx ⊢
  unfold IntKind.wrap; simp [IntKind.signed, IntKind.bits]; omega
theorem or4_u32 {a b c d : Int} (ha : 0 ≤ a ∧ a ≤ 255) (hb : 0 ≤ b ∧ b ≤ 255) (hc : 0 ≤ c ∧ c ≤ 255) (hd : 0 ≤ d ∧ d ≤ 255) : bOr .u32 (bOr .u32 (bOr .u32 (sHl .u32 a 24) (sHl .u32 b 16)) (sHl .u32 c 8)) d = a * 16777216 + b * 65536 + c * 256 + d := by
  obtain ⟨x, rfl⟩ : ∃ n : Nat, a = n := ⟨a.toNat, by omega⟩
  obtain ⟨y, rfl⟩ : ∃ n : Nat, b = n := ⟨b.toNat, by omega⟩
  obtain ⟨z, rfl⟩ : ∃ n : Nat, c = n := ⟨c.toNat, by omega⟩
  obtain ⟨u, rfl⟩ : ∃ n : Nat, d = n := ⟨d.toNat, by omega⟩
  rw [sHl32 (q := 16777216) rfl (by omega), sHl32 (q := 65536) rfl (by omega), sHl32 (q := 256) rfl (by omega)]
  have e1 := bOr32 (x := x) (y := y * 65536) 24 (by omega) (by omega)
  have e2 := bOr32 (x := x * 256 + y) (y := z * 256) 16 (by omega) (by omega)
  have e3 := bOr32 (x := x * 65536 + y * 256 + z) (y := u) 8 (by omega) (by omega)
  rw [show (2 ^ 24 * x : Nat) = x * 16777216 from by omega] at e1
  rw [show (2 ^ 16 * (x * 256 + y) : Nat) = x * 16777216 + y * 65536 from by omega] at e2
  rw [show (2 ^ 8 * (x * 65536 + y * 256 + z) : Nat) = x * 16777216 + y * 65536 + z * 256 from by omega] at e3
  simp only [Int.natCast_add, Int.natCast_mul, Int.cast_ofNat_Int] at e1 e2 e3
  rw [e1, e2, e3]
end Go.Proofs.Ytobggnpnochnnaa.V
namespace Go.Proofs.Ytobggnpnochnnaa.V
open Go.RowKit Go.Proofs.Ytobggnpnochnnaa
set_option linter.unusedVariables false
set_option linter.unusedSimpArgs false
set_option maxHeartbeats 2000000 in
set_option maxRecDepth 20000 in
theorem cmpNaN (w : World) (F : Nat → Prop) (hF : Old F w) (M : MS [] w) (x : Int) (x_h : inI64 x) :
 Calls Try.prog 134 #[iI x] w fun e w' => e = .returned (bD (False)) ∧ Tr [] w [] w' := by
 obtain ⟨x_hl, x_hu⟩ : inI64 x := id x_h
 refine go Try.func134 rfl 6 rfl [] [] hF M trivial trivial ?_
 intro a S
 have hD : ∀ k, In ([] : List BS) k → ¬ F k := fun _ h => h.elim
 refine rs S (la (av rfl)) ?_; clear S; intro a u S
 refine rs S (tr (mv rfl)<|tr (mv rfl)<|tr (neqi rfl rfl)<|la (av rfl)) ?_; clear S; intro a u S
 refine wp_ret ?_
 refine ret1 rfl S.s rfl ?_
 refine ⟨(r1 (vb ?_)), S.m.c⟩
 first | exact Iff.rfl | assumption | omega | simp_all
set_option maxHeartbeats 2000000 in
set_option maxRecDepth 20000 in
theorem sNaN (w : World) (F : Nat → Prop) (hF : Old F w) (M : MS [] w) (x : Int) (x_h : inI64 x) :
 Calls Try.prog 131 #[iI x] w fun e w' => e = .returned (bD (False)) ∧ Tr [] w [] w' := by
 obtain ⟨x_hl, x_hu⟩ : inI64 x := id x_h
 refine go Try.func131 rfl 6 rfl [] [] hF M trivial trivial ?_
 intro a S
 have hD : ∀ k, In ([] : List BS) k → ¬ F k := fun _ h => h.elim
 refine rs S (la (av rfl)) ?_; clear S; intro a u S
 refine rs S (tr (mv rfl)<|tr (mv rfl)<|tr (neqi rfl rfl)<|la (av rfl)) ?_; clear S; intro a u S
 refine wp_ret ?_
 refine ret1 rfl S.s rfl ?_
 refine ⟨(r1 (vb ?_)), S.m.c⟩
 first | exact Iff.rfl | assumption | omega | simp_all
set_option maxHeartbeats 2000000 in
set_option maxRecDepth 20000 in
theorem cmpLess (w : World) (F : Nat → Prop) (hF : Old F w) (M : MS [] w) (x : Int) (x_h : inI64 x) (y : Int) (y_h : inI64 y) :
 Calls Try.prog 130 #[iI x, iI y] w fun e w' => e = .returned (bD (x < y)) ∧ Tr [] w [] w' := by
 obtain ⟨x_hl, x_hu⟩ : inI64 x := id x_h
 obtain ⟨y_hl, y_hu⟩ : inI64 y := id y_h
 refine go Try.func130 rfl 17 rfl [] [] hF M trivial trivial ?_
 intro a S
 have hD : ∀ k, In ([] : List BS) k → ¬ F k := fun _ h => h.elim
 refine rs S (la (av rfl)) ?_; clear S; intro a u S
 refine rs S (tr (mv rfl)<|tr (oc (fun S=>cmpNaN _ _ S.x (.nil _) x x_h) cB134)<|tr (mv rfl)<|tr (og 7 rfl gt fun S hg=>x_move (S.e rfl))<|tr (ocg 7 rfl gt (fun S hg=>cmpNaN _ _ S.x (.nil _) y y_h) cB134 fun S=>⟨fun hg=>(S.p rfl hg), trivial⟩)<|tr (og 7 rfl gt fun S hg=>x_notp (S.p rfl hg))<|tr (andi rfl rfl rfl)<|tr (mv rfl)<|tr (og 12 rfl gf fun S hg=>x_move (S.e rfl))<|tr (og 12 rfl gf fun S hg=>x_move (S.e rfl))<|tr (og 12 rfl gf fun S hg=>x_lss (S.p rfl hg) (S.p rfl hg))<|tr (ori rfl rfl rfl)<|la (av rfl)) ?_; clear S; intro a u S
 refine wp_ret ?_
 refine ret1 rfl S.s rfl ?_
 refine ⟨(r1 (vb ?_)), S.m.c⟩
 first | exact Iff.rfl | assumption | omega | simp_all
theorem srt {l : List Int} (hs : l.Pairwise (· < ·)) {a b : Nat} (h : a ≤ b) (hb : b < l.length) : l.getD a intE.dflt ≤ l.getD b intE.dflt := by
 rcases Nat.eq_or_lt_of_le h with e | e
 ·subst e; exact Int.le_refl _
 have := List.pairwise_iff_getElem.1 hs a b (by omega) hb e
 rw [List.getD_eq_getElem?_getD, List.getD_eq_getElem?_getD, List.getElem?_eq_getElem (show a < l.length by omega), List.getElem?_eq_getElem hb]
 exact Int.le_of_lt this
theorem srch_lo {l : List Int} {v : Int} {i j hh : Nat} (hs : l.Pairwise (· < ·)) (h1 : i ≤ hh) (h2 : hh < j) (h3 : j ≤ l.length) (hc : l.getD hh intE.dflt < v) (hhi : ∀ k, j ≤ k → k < l.length → v ≤ l.getD k intE.dflt) : hh + 1 ≤ j ∧ j ≤ l.length ∧ (∀ k, k < hh + 1 → l.getD k intE.dflt < v) ∧ ∀ k, j ≤ k → k < l.length → v ≤ l.getD k intE.dflt :=
 ⟨h2, h3, fun k hk => Int.lt_of_le_of_lt (srt hs (show k ≤ hh by omega) (by omega)) hc, hhi⟩
theorem srch_hi {l : List Int} {v : Int} {i j hh : Nat} (hs : l.Pairwise (· < ·)) (h1 : i ≤ hh) (h2 : hh < j) (h3 : j ≤ l.length) (hlo : ∀ k, k < i → l.getD k intE.dflt < v) (hc : ¬ l.getD hh intE.dflt < v) : i ≤ hh ∧ hh ≤ l.length ∧ (∀ k, k < i → l.getD k intE.dflt < v) ∧ ∀ k, hh ≤ k → k < l.length → v ≤ l.getD k intE.dflt :=
 ⟨h1, by omega, hlo, fun k hk hk2 => Int.le_trans (Int.not_lt.1 hc) (srt hs hk hk2)⟩
theorem srch_in {l : List Int} {v : Int} {i j : Nat} (hs : l.Pairwise (· < ·)) (e : i = j) (hlo : ∀ k, k < i → l.getD k intE.dflt < v) (hhi : ∀ k, j ≤ k → k < l.length → v ≤ l.getD k intE.dflt) {A : Prop} (hA : ¬ A := by exact fun h => h.1) : (((i : Nat) : Int) < ((l.length : Nat) : Int) ∧ (l.getD i intE.dflt = v ∨ A)) ↔ v ∈ l := by
 subst e
 constructor
 ·rintro ⟨h1, h2⟩
  have h2' := h2.resolve_right hA
  rw [← h2']; exact getD_mem (d := intE.dflt) (i := i) (by omega)
 intro h
 obtain ⟨k, hk, e⟩ := List.getElem_of_mem h
 have e' : l.getD k intE.dflt = v := by rw [List.getD_eq_getElem?_getD, List.getElem?_eq_getElem hk]; exact e
 rcases Nat.lt_trichotomy k i with q | q | q
 ·have := hlo k q; omega
 ·subst q; exact ⟨by omega, .inl e'⟩
 have h1 := hhi i (Nat.le_refl _) (by omega)
 have h2 := List.pairwise_iff_getElem.1 hs i k (by omega) hk q
 rw [List.getD_eq_getElem?_getD, List.getElem?_eq_getElem (show i < l.length by omega)] at h1
 have h3 : v ≤ l[i] := h1
 omega
set_option maxHeartbeats 2000000 in
set_option maxRecDepth 20000 in
theorem sSearch (w : World) (F : Nat → Prop) (hF : Old F w) (M : MS [] w) (x : Sl Int) (x_w : (slE intE).wf (Fr F []) w.heap x) (v : Int) (v_h : inI64 v) (hs : x.xs.Pairwise (· < ·) ∧ x.xs.length ≤ 1000) :
 Calls Try.prog 126 #[sV x, iI v] w fun e w' => ∃ (r0 : Nat), e = .returned (.tuple #[iN r0, bD (v ∈ x.xs)]) ∧ (r0 ≤ x.xs.length ∧ (∀ k, k < r0 → x.xs.getD k intE.dflt < v) ∧ ∀ k, r0 ≤ k → k < x.xs.length → v ≤ x.xs.getD k intE.dflt) ∧ Tr [] w [] w' := by
 have : x.xs.length ≤ 9223372036854775807 := (x_w).1.len
 obtain ⟨v_hl, v_hu⟩ : inI64 v := id v_h
 obtain ⟨hs, hsl⟩ := hs
 refine go Try.func126 rfl 54 rfl [wfF (slE intE) x] [] hF M ⟨x_w, trivial⟩ trivial ?_
 intro a S
 have hD : ∀ k, In ([] : List BS) k → ¬ F k := fun _ h => h.elim
 refine rs S (tr (av rfl)<|la (av rfl)) ?_; clear S; intro a u S
 have hn3 : x.xs.length ≤ 9223372036854775807 := ((S.u 0 rfl)).1.len
 refine rs S (tr (mv rfl)<|tr (leni uT22 rfl)<|la (av rfl)) ?_; clear S; intro a u S
 refine rs S (tr (mv rfl)<|tr (av rfl)<|la (av rfl)) ?_; clear S; intro a u S
 refine wp_seq (wp_block ?_)
 refine lp2 (fun (i : Nat) (j : Nat) => [(0, sV x), (1, iI v), (4, iI 0), (5, .bool false), (6, iN x.xs.length), (7, iN i), (8, iN j)]) (fun (i : Nat) (j : Nat) => []) (fun (i : Nat) (j : Nat) => i ≤ j ∧ j ≤ x.xs.length ∧ (∀ k, k < i → x.xs.getD k intE.dflt < v) ∧ ∀ k, j ≤ k → k < x.xs.length → v ≤ x.xs.getD k intE.dflt) (fun (i : Nat) (j : Nat) => j - i) S 0 x.xs.length (subM rfl) rfl ?_ ?_
 ·exact ⟨Nat.zero_le _, Nat.le_refl _, fun k hk => by omega, fun k hk hk2 => by omega⟩
 clear S; intro i j a u S hR
 obtain ⟨hij, hjn, hlo, hhi⟩ := hR
 refine wp_seq ?_
 refine rs S (tr (mv rfl)<|tr (mv rfl)<|la (lssi rfl rfl)) ?_; clear S; intro a u S
 refine cd S rfl ?_ ?_
 ·intro hc0
  refine wp_skip (then_n (wp_block (rs0 ?_)))
  refine sp S (tr (mv rfl)<|tr (mv rfl)<|tr (addi ((i + j : Nat) : Int) rfl rfl (w_i64 (by omega)))<|tr (ov fun S=>x_conv uT3 uT40 (S.e rfl) (r := ((i + j : Nat) : Int)) (w_u64 (by omega)))<|tr (ov fun S=>x_shr (S.e rfl) (S.e rfl) (by omega))<|tr (ov fun S=>x_conv uT40 uT3 (S.e rfl) (r := (IntKind.i64.wrap (sHr .u64 ((i + j : Nat) : Int) 1))) rfl)<|la (av rfl)) ?_; clear S; intro a u S
  obtain ⟨hh, hhe, hh1, hh2⟩ : ∃ hh : Nat, ((hh : Nat) : Int) = (IntKind.i64.wrap (sHr .u64 ((i + j : Nat) : Int) 1)) ∧ i ≤ hh ∧ hh < j := ⟨(i + j) / 2, by rw [sHr_q (q := 2) rfl (by decide), show IntKind.i64.wrap (((i + j : Nat) : Int) / 2) = ((i + j : Nat) : Int) / 2 from w_i64 (by omega)]; omega, by omega, by omega⟩
  rw [← hhe] at S
  refine ent ?_
  obtain ⟨hl8, hu8⟩ : inI64 (x.xs.getD hh intE.dflt) := id (((S.u 0 rfl)).1.wf hh (by omega))
  refine rs S (tr (mv rfl)<|tr (mv rfl)<|tr (idxi uT22 sZ3 rfl rfl hh rfl (by omega) (((S.u 0 rfl)).1.adr (i := hh) (by omega)))<|tr (ov fun S=>x_load sC3 (S.e rfl) (((S.u 0 rfl)).1.cell hh (by omega) 0 _ rfl))<|tr (mv rfl)<|la (oc (fun S=>cmpLess _ _ S.x (.nil _) (x.xs.getD hh intE.dflt) (((S.u 0 rfl)).1.wf hh (by omega)) v v_h) cB130)) ?_; clear S; intro a u S
  refine cd S rfl ?_ ?_
  ·intro hc1
   refine rg S (tr (mv rfl)<|tr (addi ((hh + 1 : Nat) : Int) rfl rfl (w_i64 (by omega)))<|la (av rfl)) ?_; clear S; intro a u S
   refine blk_n (then_n ?_)
   refine ⟨hh + 1, j, S.re (subM rfl) rfl rfl, ?_, ?_⟩
   ·first | exact srch_lo hs hh1 hh2 hjn (by assumption) hhi | exact srch_hi hs hh1 hh2 hjn hlo (by assumption)
   omega
  intro hc2
  refine rg S (tr (mv rfl)<|la (av rfl)) ?_; clear S; intro a u S
  refine blk_n (then_n ?_)
  refine ⟨i, hh, S.re (subM rfl) rfl rfl, ?_, ?_⟩
  ·first | exact srch_lo hs hh1 hh2 hjn (by assumption) hhi | exact srch_hi hs hh1 hh2 hjn hlo (by assumption)
  omega
 intro hc3
 refine wp_exit (then_e (then_e (blk_e (then_n ?_))))
 refine rs S (tr (mv rfl)<|tr (mv rfl)<|tr (mv rfl)<|tr (lssi rfl rfl)<|tr (mv rfl)<|tr (og 35 rfl gt fun S hg=>x_move (S.e rfl))<|tr (og 35 rfl gt fun S hg=>x_move (S.e rfl))<|tr (og 35 rfl gt fun S hg=>x_idx uT22 sZ3 (S.p rfl hg) (S.p rfl hg) i rfl (by omega) (((S.u 0 rfl)).1.adr (i := i) (by omega)))<|tr (og 35 rfl gt fun S hg=>x_load sC3 (S.p rfl hg) (((S.u 0 rfl)).1.cell i (by omega) 0 _ rfl))<|tr (og 35 rfl gt fun S hg=>x_move (S.e rfl))<|tr (og 35 rfl gt fun S hg=>x_eql (S.p rfl hg) (S.p rfl hg))<|tr (og 35 rfl gt fun S hg=>x_move (S.p rfl hg))<|tr (og 42 rfl ggf fun S hg=>x_move (S.e rfl))<|tr (og 42 rfl ggf fun S hg=>x_move (S.e rfl))<|tr (og 42 rfl ggf fun S hg=>x_idx uT22 sZ3 (S.p rfl hg) (S.p rfl hg) i rfl (by omega) (((S.u 0 rfl)).1.adr (i := i) (by omega)))<|tr (og 42 rfl ggf fun S hg=>x_load sC3 (S.p rfl hg) (((S.u 0 rfl)).1.cell i (by omega) 0 _ rfl))<|tr (ocg 42 rfl ggf (fun S hg=>sNaN _ _ S.x (.nil _) (x.xs.getD i intE.dflt) (((S.u 0 rfl)).1.wf i (by omega))) cB131 fun S=>⟨fun hg=>(S.p rfl hg), trivial⟩)<|tr (og 42 rfl ggf fun S hg=>x_move (S.p rfl hg))<|tr (og 48 rfl ggt fun S hg=>x_move (S.e rfl))<|tr (ocg 48 rfl ggt (fun S hg=>sNaN _ _ S.x (.nil _) v v_h) cB131 fun S=>⟨fun hg=>(S.p rfl hg), trivial⟩)<|tr (og 42 rfl ggf fun S hg=>x_and (S.p rfl hg) (fun hl => (S.p rfl (And.intro hg hl))) (S.e rfl))<|tr (og 35 rfl gt fun S hg=>x_or (S.p rfl hg) (S.e rfl) (fun hl => (S.p rfl (And.intro hg hl))))<|tr (andi rfl rfl rfl)<|tr (av rfl)<|la (av rfl)) ?_; clear S; intro a u S
 refine wp_ret ?_
 refine ret2 rfl S.s rfl rfl ?_
 refine ⟨i, (r2 rfl (vb ?_)), ?_, S.m.c⟩
 ·exact srch_in hs (show i = j by omega) hlo hhi
 exact ⟨by omega, hlo, fun k hk hk2 => hhi k (by omega) hk2⟩
theorem sInsert (w : World) (F : Nat → Prop) (hF : Old F w) (x_a : Option Addr) (v_a : Option Addr) (M : MS [abk x_a, abk v_a] w) (hD : ∀ k, In [abk x_a, abk v_a] k → ¬ F k) (x_c : Nat) (x : List Int) (x_R : Row intE 3 0 F [abk x_a, abk v_a] w x_a x_c x) (i : Int) (i_h : inI64 i) (v_c : Nat) (v : List Int) (v_R : Row intE 3 0 F [abk x_a, abk v_a] w v_a v_c v) (hi : (0 ≤ i ∧ i ≤ x.length) ∧ v.length = 1 ∧ x.length ≤ 1000) :
 Calls Try.prog 127 #[.slice x_a x.length x_c, iI i, .slice v_a v.length v_c] w fun e w' => ∃ (ra : Option Addr) (rc : Nat), e = .returned (.slice ra ((x.take (i).toNat ++ v ++ x.drop (i).toNat).length) rc) ∧ Row intE 3 0 F [abk ra] w' ra rc (x.take (i).toNat ++ v ++ x.drop (i).toNat) ∧ Tr [abk x_a, abk v_a] w [abk ra] w' := ins_row M x_R v_R i hi
end Go.Proofs.Ytobggnpnochnnaa.V
namespace Go.Proofs.Ytobggnpnochnnaa.V
open Go.RowKit Go.Proofs.Ytobggnpnochnnaa
set_option linter.unusedVariables false
set_option linter.unusedSimpArgs false
set_option maxHeartbeats 2000000 in
set_option maxRecDepth 20000 in
theorem cWait (w : World) (F : Nat → Prop) (hF : Old F w) (m_b : Nat) (m : Mach) (M : MS [In (ow (machF m_b m))] w) (hD : ∀ k, In [In (ow (machF m_b m))] k → ¬ F k) (m_k : machK m) (m_K : (bnO (machF m_b m)).p F (In [In (ow (machF m_b m))]) w) (d : Int) (d_h : inI64 d) (hs : m.waiting.xs.Pairwise (· < ·) ∧ m.waiting.xs.length ≤ 1000) :
 Calls Try.prog 122 #[pT m_b 0, iI d] w fun e w' => ∃ (m_1 : Mach), e = .returned (.tuple #[]) ∧ machK m_1 ∧ (bnO (machF m_b m_1)).p F (In [In (ow (machF m_b m_1))]) w' ∧ (KeepM m m_1 ∧ absM m_1 = {absM m with waiting := insW m.waiting.xs d}) ∧ Tr [In (ow (machF m_b m))] w [In (ow (machF m_b m_1))] w' := by
 obtain ⟨d_hl, d_hu⟩ : inI64 d := id d_h
 obtain ⟨hs, hsl⟩ := hs
 refine go Try.func122 rfl 31 rfl [] [bnO (machF m_b m)] hF M trivial ⟨m_K, trivial⟩ ?_
 intro a S
 refine rs0 ?_
 refine sp S (tr (mv rfl)<|la (ov fun S=>x_nilck (S.e rfl))) ?_; clear S; intro a u S
 replace S := (show St _ _ _ _ _ _ [blO m_b [sV m.rounds, sV m.states, iI m.round, bD (m.back = true), iI m.seq, sV m.target, sV m.known, sV m.waiting, sV m.sent] 166, rwO intE 3 0 m.target.a m.target.c m.target.xs, rwO intE 3 0 m.known.a m.known.c m.known.xs, rwO intE 3 0 m.waiting.a m.waiting.c m.waiting.xs, rwO intE 3 0 m.sent.a m.sent.c m.sent.xs, daO (slE (slE chgE)) m.rounds, daO (slE (slE intE)) m.states] _ _ from S.opn (ks := []))
 replace S := S.ar (wfF (slE (slE chgE)) m.rounds) (S.da 5 rfl)
 replace S := S.ar (wfF (slE (slE intE)) m.states) (S.da 6 rfl)
 replace S := S.pk [0, 1, 2, 3, 4] (os' := [blO m_b [sV m.rounds, sV m.states, iI m.round, bD (m.back = true), iI m.seq, sV m.target, sV m.known, sV m.waiting, sV m.sent] 166, rwO intE 3 0 m.target.a m.target.c m.target.xs, rwO intE 3 0 m.known.a m.known.c m.known.xs, rwO intE 3 0 m.waiting.a m.waiting.c m.waiting.xs, rwO intE 3 0 m.sent.a m.sent.c m.sent.xs])
 have : m.target.xs.length ≤ 9223372036854775807 := (S.row 1 rfl).len_le
 have : m.known.xs.length ≤ 9223372036854775807 := (S.row 2 rfl).len_le
 have : m.waiting.xs.length ≤ 9223372036854775807 := (S.row 3 rfl).len_le
 have : m.sent.xs.length ≤ 9223372036854775807 := (S.row 4 rfl).len_le
 have : m.rounds.xs.length ≤ 9223372036854775807 := ((S.u 0 rfl)).1.len
 have : m.states.xs.length ≤ 9223372036854775807 := ((S.u 1 rfl)).1.len
 obtain ⟨_, _⟩ : inI64 m.round := m_k.1
 obtain ⟨_, _⟩ : inI64 m.seq := m_k.2
 refine sp S (tr (fldi 0 2 rfl uT166)<|tr (fldi (0 + 2) 5 rfl uT57)<|tr (ldk 0 sC22 rfl rfl rfl)<|la (mv rfl)) ?_; clear S; intro a u S
 refine cl S (sSearch _ _ (S.xx [abk m.waiting.a]) (.nil _) (Sl.mk m.waiting.a m.waiting.c m.waiting.xs) (S.rargD hD 3 rfl (by first | decide | exact Nat.one_pos | exact Nat.succ_pos _) _ (by simp)) d d_h (⟨by assumption, by omega⟩)) cB126 ?_
 rintro e u ⟨r_t130, rfl, hr_t130, T0⟩; refine ⟨_, rfl, fun a s => ?_⟩
 replace S := S.k0 s T0; clear s T0
 dsimp only at hr_t130
 refine ens S (tr (mv rfl)<|tr (exi rfl rfl)<|tr (exi rfl rfl)<|tr (av rfl)<|la (av rfl)) ?_; clear S; intro a u S
 refine rs S (tr (mv rfl)<|la (noti rfl)) ?_; clear S; intro a u S
 refine cd S rfl ?_ ?_
 ·intro hc0
  refine r0 ?_
  refine sp S (tr (mv rfl)<|tr (mv rfl)<|tr (ov fun S=>x_nilck (S.e rfl))<|tr (fldi 0 2 rfl uT166)<|tr (fldi (0 + 2) 5 rfl uT57)<|tr (ldk 0 sC22 rfl rfl rfl)<|tr (mv rfl)<|la (mv rfl)) ?_; clear S; intro a u S
  refine nbr intE S [d] (x_bs S [(0, iI d)] uT22 iZ3) (fun x hx => by simp only [List.mem_cons, List.not_mem_nil, or_false] at hx; rw [hx]; exact (show intE.wf _ _ d from d_h)) ?_; clear S; intro a u b26 S
  replace S := (show St _ _ _ _ _ _ [blO m_b [sV m.rounds, sV m.states, iI m.round, bD (m.back = true), iI m.seq, sV m.target, sV m.known, sV m.waiting, sV m.sent] 166, rwO intE 3 0 m.target.a m.target.c m.target.xs, rwO intE 3 0 m.known.a m.known.c m.known.xs, rwO intE 3 0 m.waiting.a m.waiting.c m.waiting.xs, rwO intE 3 0 m.sent.a m.sent.c m.sent.xs, rwO intE 3 0 (some ⟨b26, 0, none⟩) 1 ([d])] _ _ from S.b0 5 rfl)
  replace S := S.pk [0, 1, 2, 4, 3, 5] (os' := [blO m_b [sV m.rounds, sV m.states, iI m.round, bD (m.back = true), iI m.seq, sV m.target, sV m.known, sV m.waiting, sV m.sent] 166, rwO intE 3 0 m.target.a m.target.c m.target.xs, rwO intE 3 0 m.known.a m.known.c m.known.xs, rwO intE 3 0 m.sent.a m.sent.c m.sent.xs, rwO intE 3 0 m.waiting.a m.waiting.c m.waiting.xs, rwO intE 3 0 (some ⟨b26, 0, none⟩) 1 ([d])])
  refine cl S (sInsert _ _ (S.xx (ow [rwO intE 3 0 m.waiting.a m.waiting.c m.waiting.xs, rwO intE 3 0 (some ⟨b26, 0, none⟩) 1 ([d])])) m.waiting.a (some ⟨b26, 0, none⟩) (S.mF (ks := [blO m_b [sV m.rounds, sV m.states, iI m.round, bD (m.back = true), iI m.seq, sV m.target, sV m.known, sV m.waiting, sV m.sent] 166, rwO intE 3 0 m.target.a m.target.c m.target.xs, rwO intE 3 0 m.known.a m.known.c m.known.xs, rwO intE 3 0 m.sent.a m.sent.c m.sent.xs]) (fs := [rwO intE 3 0 m.waiting.a m.waiting.c m.waiting.xs, rwO intE 3 0 (some ⟨b26, 0, none⟩) 1 ([d])])) (S.nfF (ks := [blO m_b [sV m.rounds, sV m.states, iI m.round, bD (m.back = true), iI m.seq, sV m.target, sV m.known, sV m.waiting, sV m.sent] 166, rwO intE 3 0 m.target.a m.target.c m.target.xs, rwO intE 3 0 m.known.a m.known.c m.known.xs, rwO intE 3 0 m.sent.a m.sent.c m.sent.xs]) (fs := [rwO intE 3 0 m.waiting.a m.waiting.c m.waiting.xs, rwO intE 3 0 (some ⟨b26, 0, none⟩) 1 ([d])]) hD) m.waiting.c m.waiting.xs ⟨(S.dF (ks := [blO m_b [sV m.rounds, sV m.states, iI m.round, bD (m.back = true), iI m.seq, sV m.target, sV m.known, sV m.waiting, sV m.sent] 166, rwO intE 3 0 m.target.a m.target.c m.target.xs, rwO intE 3 0 m.known.a m.known.c m.known.xs, rwO intE 3 0 m.sent.a m.sent.c m.sent.xs]) (fs := [rwO intE 3 0 m.waiting.a m.waiting.c m.waiting.xs, rwO intE 3 0 (some ⟨b26, 0, none⟩) 1 ([d])]) 0 rfl mo_rw).1, (S.dF (ks := [blO m_b [sV m.rounds, sV m.states, iI m.round, bD (m.back = true), iI m.seq, sV m.target, sV m.known, sV m.waiting, sV m.sent] 166, rwO intE 3 0 m.target.a m.target.c m.target.xs, rwO intE 3 0 m.known.a m.known.c m.known.xs, rwO intE 3 0 m.sent.a m.sent.c m.sent.xs]) (fs := [rwO intE 3 0 m.waiting.a m.waiting.c m.waiting.xs, rwO intE 3 0 (some ⟨b26, 0, none⟩) 1 ([d])]) 0 rfl mo_rw).2⟩ ((r_t130 : Nat) : Int) ⟨by omega, by omega⟩ 1 ([d]) ⟨(S.dF (ks := [blO m_b [sV m.rounds, sV m.states, iI m.round, bD (m.back = true), iI m.seq, sV m.target, sV m.known, sV m.waiting, sV m.sent] 166, rwO intE 3 0 m.target.a m.target.c m.target.xs, rwO intE 3 0 m.known.a m.known.c m.known.xs, rwO intE 3 0 m.sent.a m.sent.c m.sent.xs]) (fs := [rwO intE 3 0 m.waiting.a m.waiting.c m.waiting.xs, rwO intE 3 0 (some ⟨b26, 0, none⟩) 1 ([d])]) 1 rfl mo_rw).1, (S.dF (ks := [blO m_b [sV m.rounds, sV m.states, iI m.round, bD (m.back = true), iI m.seq, sV m.target, sV m.known, sV m.waiting, sV m.sent] 166, rwO intE 3 0 m.target.a m.target.c m.target.xs, rwO intE 3 0 m.known.a m.known.c m.known.xs, rwO intE 3 0 m.sent.a m.sent.c m.sent.xs]) (fs := [rwO intE 3 0 m.waiting.a m.waiting.c m.waiting.xs, rwO intE 3 0 (some ⟨b26, 0, none⟩) 1 ([d])]) 1 rfl mo_rw).2⟩ (⟨⟨by omega, by omega⟩, by first | rfl | simp, by omega⟩)) cB127 ?_
  rintro e u ⟨ra_t27, rc_t27, rfl, R_t27, T0⟩; refine ⟨_, rfl, fun a s => ?_⟩
  have S2 := S.kF (ks := [blO m_b [sV m.rounds, sV m.states, iI m.round, bD (m.back = true), iI m.seq, sV m.target, sV m.known, sV m.waiting, sV m.sent] 166, rwO intE 3 0 m.target.a m.target.c m.target.xs, rwO intE 3 0 m.known.a m.known.c m.known.xs, rwO intE 3 0 m.sent.a m.sent.c m.sent.xs]) (fs := [rwO intE 3 0 m.waiting.a m.waiting.c m.waiting.xs, rwO intE 3 0 (some ⟨b26, 0, none⟩) 1 ([d])]) [rwO intE 3 0 ra_t27 rc_t27 (m.waiting.xs.take (((r_t130 : Nat) : Int)).toNat ++ ([d]) ++ m.waiting.xs.drop (((r_t130 : Nat) : Int)).toNat)] s T0 ⟨⟨R_t27.b0.own, R_t27.wf⟩, trivial⟩ ⟨mo_rw, trivial⟩
  replace S2 := (show St _ _ _ _ _ _ [blO m_b [sV m.rounds, sV m.states, iI m.round, bD (m.back = true), iI m.seq, sV m.target, sV m.known, sV m.waiting, sV m.sent] 166, rwO intE 3 0 m.target.a m.target.c m.target.xs, rwO intE 3 0 m.known.a m.known.c m.known.xs, rwO intE 3 0 m.sent.a m.sent.c m.sent.xs, rwO intE 3 0 ra_t27 rc_t27 (m.waiting.xs.take (((r_t130 : Nat) : Int)).toNat ++ ([d]) ++ m.waiting.xs.drop (((r_t130 : Nat) : Int)).toNat)] _ _ from S2)
  clear S; have S := S2; clear S2 s T0 R_t27
  refine en S (tr (ov fun S=>x_nilck (S.e rfl))<|tr (fldi 0 2 rfl uT166)<|tr (fldi (0 + 2) 5 rfl uT57)<|la (stk 0 rfl rfl rfl)) ?_; clear S; intro a u S
  replace S := S.pk [0, 1, 2, 4, 3] (os' := [blO m_b [sV m.rounds, sV m.states, iI m.round, bD (m.back = true), iI m.seq, sV m.target, sV m.known, .slice ra_t27 ((m.waiting.xs.take (((r_t130 : Nat) : Int)).toNat ++ ([d]) ++ m.waiting.xs.drop (((r_t130 : Nat) : Int)).toNat).length) rc_t27, sV m.sent] 166, rwO intE 3 0 m.target.a m.target.c m.target.xs, rwO intE 3 0 m.known.a m.known.c m.known.xs, rwO intE 3 0 ra_t27 rc_t27 (m.waiting.xs.take (((r_t130 : Nat) : Int)).toNat ++ ([d]) ++ m.waiting.xs.drop (((r_t130 : Nat) : Int)).toNat), rwO intE 3 0 m.sent.a m.sent.c m.sent.xs])
  replace S := S.oda (E := slE (slE chgE)) (x := m.rounds) (S.u 0 rfl)
  replace S := S.oda (E := slE (slE intE)) (x := m.states) (S.u 1 rfl)
  have hk4 : machK (⟨m.rounds, m.states, m.round, m.back, m.seq, (Sl.mk m.target.a m.target.c m.target.xs), (Sl.mk m.known.a m.known.c m.known.xs), (Sl.mk ra_t27 rc_t27 (m.waiting.xs.take (((r_t130 : Nat) : Int)).toNat ++ ([d]) ++ m.waiting.xs.drop (((r_t130 : Nat) : Int)).toNat)), (Sl.mk m.sent.a m.sent.c m.sent.xs)⟩ : Mach) := ⟨m_k.1, m_k.2⟩
  replace S := (show St _ _ _ _ _ _ ([] ++ machF m_b (⟨m.rounds, m.states, m.round, m.back, m.seq, (Sl.mk m.target.a m.target.c m.target.xs), (Sl.mk m.known.a m.known.c m.known.xs), (Sl.mk ra_t27 rc_t27 (m.waiting.xs.take (((r_t130 : Nat) : Int)).toNat ++ ([d]) ++ m.waiting.xs.drop (((r_t130 : Nat) : Int)).toNat)), (Sl.mk m.sent.a m.sent.c m.sent.xs)⟩ : Mach)) _ _ from S).cls
  replace S := (show St _ _ _ _ _ _ [bnO (machF m_b (⟨m.rounds, m.states, m.round, m.back, m.seq, (Sl.mk m.target.a m.target.c m.target.xs), (Sl.mk m.known.a m.known.c m.known.xs), (Sl.mk ra_t27 rc_t27 (m.waiting.xs.take (((r_t130 : Nat) : Int)).toNat ++ ([d]) ++ m.waiting.xs.drop (((r_t130 : Nat) : Int)).toNat)), (Sl.mk m.sent.a m.sent.c m.sent.xs)⟩ : Mach))] _ _ from S)
  refine end0 rfl S.s ?_
  refine ⟨(⟨m.rounds, m.states, m.round, m.back, m.seq, (Sl.mk m.target.a m.target.c m.target.xs), (Sl.mk m.known.a m.known.c m.known.xs), (Sl.mk ra_t27 rc_t27 (m.waiting.xs.take (((r_t130 : Nat) : Int)).toNat ++ ([d]) ++ m.waiting.xs.drop (((r_t130 : Nat) : Int)).toNat)), (Sl.mk m.sent.a m.sent.c m.sent.xs)⟩ : Mach), rfl, hk4, (S.m.o _ (nth_mem (i := 0) rfl)), ?_, S.m.c⟩
  refine ⟨⟨rfl, rfl⟩, ?_⟩
  have hw := insW_new hr_t130.1 hr_t130.2.1 hr_t130.2.2 hc0
  unfold absM
  simp only [hw, Int.toNat_natCast]
 intro hc1
 refine wp_skip ?_
 replace S := S.oda (E := slE (slE chgE)) (x := m.rounds) (S.u 0 rfl)
 replace S := S.oda (E := slE (slE intE)) (x := m.states) (S.u 1 rfl)
 have hk5 : machK (⟨m.rounds, m.states, m.round, m.back, m.seq, (Sl.mk m.target.a m.target.c m.target.xs), (Sl.mk m.known.a m.known.c m.known.xs), (Sl.mk m.waiting.a m.waiting.c m.waiting.xs), (Sl.mk m.sent.a m.sent.c m.sent.xs)⟩ : Mach) := ⟨m_k.1, m_k.2⟩
 replace S := (show St _ _ _ _ _ _ ([] ++ machF m_b (⟨m.rounds, m.states, m.round, m.back, m.seq, (Sl.mk m.target.a m.target.c m.target.xs), (Sl.mk m.known.a m.known.c m.known.xs), (Sl.mk m.waiting.a m.waiting.c m.waiting.xs), (Sl.mk m.sent.a m.sent.c m.sent.xs)⟩ : Mach)) _ _ from S).cls
 replace S := (show St _ _ _ _ _ _ [bnO (machF m_b (⟨m.rounds, m.states, m.round, m.back, m.seq, (Sl.mk m.target.a m.target.c m.target.xs), (Sl.mk m.known.a m.known.c m.known.xs), (Sl.mk m.waiting.a m.waiting.c m.waiting.xs), (Sl.mk m.sent.a m.sent.c m.sent.xs)⟩ : Mach))] _ _ from S)
 refine end0 rfl S.s ?_
 refine ⟨(⟨m.rounds, m.states, m.round, m.back, m.seq, (Sl.mk m.target.a m.target.c m.target.xs), (Sl.mk m.known.a m.known.c m.known.xs), (Sl.mk m.waiting.a m.waiting.c m.waiting.xs), (Sl.mk m.sent.a m.sent.c m.sent.xs)⟩ : Mach), rfl, hk5, (S.m.o _ (nth_mem (i := 0) rfl)), ?_, S.m.c⟩
 refine ⟨⟨rfl, rfl⟩, ?_⟩
 have hw := insW_mem hs (Classical.not_not.1 hc1)
 unfold absM
 simp only [hw]
end Go.Proofs.Ytobggnpnochnnaa.V
namespace Go.Proofs.Ytobggnpnochnnaa.V
open Go.RowKit Go.Proofs.Ytobggnpnochnnaa
set_option linter.unusedVariables false
set_option linter.unusedSimpArgs false
set_option maxHeartbeats 2000000 in
set_option maxRecDepth 20000 in
theorem cStart (w : World) (F : Nat → Prop) (hF : Old F w) (m_b : Nat) (m : Mach) (M : MS [In (ow (machF m_b m))] w) (hD : ∀ k, In [In (ow (machF m_b m))] k → ¬ F k) (m_k : machK m) (m_K : (bnO (machF m_b m)).p F (In [In (ow (machF m_b m))]) w) (ok : MachOK m ∧ m.sent.xs.length ≤ 1000000) :
 Calls Try.prog 105 #[pT m_b 0] w fun e w' => ∃ (m_1 : Mach), e = .returned (.tuple #[]) ∧ machK m_1 ∧ (bnO (machF m_b m_1)).p F (In [In (ow (machF m_b m_1))]) w' ∧ (KeepM m m_1 ∧ absM m_1 = startC (rdsM m) (stsM m) (absM m)) ∧ Tr [In (ow (machF m_b m))] w [In (ow (machF m_b m_1))] w' := by
 obtain ⟨⟨PO, CO⟩, hsent⟩ := ok
 have hRl := rds_len m
 have hSl := sts_len m
 have hP1 := PO.r1
 have hP2 := PO.s1
 have hPn := PO.n1
 have hC1 : -1 ≤ m.round ∧ m.round ≤ _ := CO.rd
 have hsq : 0 ≤ m.seq ∧ m.seq ≤ 40 := CO.sqb hP1
 have hkn : m.known.xs.length = _ := CO.kn
 have hwt : Asc _ m.waiting.xs := CO.wt
 have hwl := hwt.len
 refine go Try.func105 rfl 94 rfl [] [bnO (machF m_b m)] hF M trivial ⟨m_K, trivial⟩ ?_
 intro a S
 refine rs0 ?_
 refine sp S (tr (mv rfl)<|la (ov fun S=>x_nilck (S.e rfl))) ?_; clear S; intro a u S
 replace S := (show St _ _ _ _ _ _ [blO m_b [sV m.rounds, sV m.states, iI m.round, bD (m.back = true), iI m.seq, sV m.target, sV m.known, sV m.waiting, sV m.sent] 166, rwO intE 3 0 m.target.a m.target.c m.target.xs, rwO intE 3 0 m.known.a m.known.c m.known.xs, rwO intE 3 0 m.waiting.a m.waiting.c m.waiting.xs, rwO intE 3 0 m.sent.a m.sent.c m.sent.xs, daO (slE (slE chgE)) m.rounds, daO (slE (slE intE)) m.states] _ _ from S.opn (ks := []))
 replace S := S.ar (wfF (slE (slE chgE)) m.rounds) (S.da 5 rfl)
 replace S := S.ar (wfF (slE (slE intE)) m.states) (S.da 6 rfl)
 replace S := S.pk [0, 1, 2, 3, 4] (os' := [blO m_b [sV m.rounds, sV m.states, iI m.round, bD (m.back = true), iI m.seq, sV m.target, sV m.known, sV m.waiting, sV m.sent] 166, rwO intE 3 0 m.target.a m.target.c m.target.xs, rwO intE 3 0 m.known.a m.known.c m.known.xs, rwO intE 3 0 m.waiting.a m.waiting.c m.waiting.xs, rwO intE 3 0 m.sent.a m.sent.c m.sent.xs])
 have : m.target.xs.length ≤ 9223372036854775807 := (S.row 1 rfl).len_le
 have : m.known.xs.length ≤ 9223372036854775807 := (S.row 2 rfl).len_le
 have : m.waiting.xs.length ≤ 9223372036854775807 := (S.row 3 rfl).len_le
 have : m.sent.xs.length ≤ 9223372036854775807 := (S.row 4 rfl).len_le
 have : m.rounds.xs.length ≤ 9223372036854775807 := ((S.u 0 rfl)).1.len
 have : m.states.xs.length ≤ 9223372036854775807 := ((S.u 1 rfl)).1.len
 obtain ⟨_, _⟩ : inI64 m.round := m_k.1
 obtain ⟨_, _⟩ : inI64 m.seq := m_k.2
 refine ens S (tr (fldi 0 2 rfl uT166)<|tr (fldi (0 + 2) 0 rfl uT57)<|tr (ldk 0 sC3 rfl rfl rfl)<|la (av rfl)) ?_; clear S; intro a u S
 refine wp_seq ?_
 refine rs S (tr (mv rfl)<|tr (lssi rfl rfl)<|tr (mv rfl)<|tr (og 12 rfl gf fun S hg=>x_move (S.e rfl))<|tr (og 12 rfl gf fun S hg=>x_move (S.e rfl))<|tr (og 12 rfl gf fun S hg=>x_nilck (S.p rfl hg))<|tr (og 12 rfl gf fun S hg=>xf (0) 0 uT166 (S.p rfl hg))<|tr (og 12 rfl gf fun S hg=>x_load sC45 (S.p rfl hg) ((S.k 0 rfl).cell (j := 0) rfl))<|tr (og 12 rfl gf fun S hg=>x_len uT45 (S.p rfl hg))<|tr (og 12 rfl gf fun S hg=>x_geq (S.p rfl hg) (S.p rfl hg))<|la (ori rfl rfl rfl)) ?_; clear S; intro a u S
 refine cd S rfl ?_ ?_
 ·intro hc0
  refine wp_ret (then_r ?_)
  replace S := S.oda (E := slE (slE chgE)) (x := m.rounds) (S.u 0 rfl)
  replace S := S.oda (E := slE (slE intE)) (x := m.states) (S.u 1 rfl)
  have hk3 : machK (⟨m.rounds, m.states, m.round, m.back, m.seq, (Sl.mk m.target.a m.target.c m.target.xs), (Sl.mk m.known.a m.known.c m.known.xs), (Sl.mk m.waiting.a m.waiting.c m.waiting.xs), (Sl.mk m.sent.a m.sent.c m.sent.xs)⟩ : Mach) := ⟨m_k.1, m_k.2⟩
  replace S := (show St _ _ _ _ _ _ ([] ++ machF m_b (⟨m.rounds, m.states, m.round, m.back, m.seq, (Sl.mk m.target.a m.target.c m.target.xs), (Sl.mk m.known.a m.known.c m.known.xs), (Sl.mk m.waiting.a m.waiting.c m.waiting.xs), (Sl.mk m.sent.a m.sent.c m.sent.xs)⟩ : Mach)) _ _ from S).cls
  replace S := (show St _ _ _ _ _ _ [bnO (machF m_b (⟨m.rounds, m.states, m.round, m.back, m.seq, (Sl.mk m.target.a m.target.c m.target.xs), (Sl.mk m.known.a m.known.c m.known.xs), (Sl.mk m.waiting.a m.waiting.c m.waiting.xs), (Sl.mk m.sent.a m.sent.c m.sent.xs)⟩ : Mach))] _ _ from S)
  refine ret0 rfl S.s  ?_
  refine ⟨(⟨m.rounds, m.states, m.round, m.back, m.seq, (Sl.mk m.target.a m.target.c m.target.xs), (Sl.mk m.known.a m.known.c m.known.xs), (Sl.mk m.waiting.a m.waiting.c m.waiting.xs), (Sl.mk m.sent.a m.sent.c m.sent.xs)⟩ : Mach), rfl, hk3, (S.m.o _ (nth_mem (i := 0) rfl)), ?_, S.m.c⟩
  exact ⟨⟨rfl, rfl⟩, by show absM m = _; unfold startC; rw [if_pos (by rw [hRl]; exact hc0)]⟩
 intro hc1
 refine wp_skip (then_n ?_)
 refine rs S (tr (mv rfl)<|tr (ov fun S=>x_nilck (S.e rfl))<|tr (fldi 0 2 rfl uT166)<|tr (fldi (0 + 2) 2 rfl uT57)<|tr (ldk 0 sC3 rfl rfl rfl)<|tr (addi (m.seq + 1) rfl rfl (w_i64 (by omega)))<|tr (ov fun S=>x_nilck (S.e rfl))<|tr (fldi 0 2 rfl uT166)<|tr (fldi (0 + 2) 2 rfl uT57)<|la (stk 0 rfl rfl rfl)) ?_; clear S; intro a u S
 refine wp_seq ?_
 have hn6 : ((m.rounds.xs.getD ((m.round).toNat) (slE chgE).dflt).xs).length ≤ 9223372036854775807 := ((((S.u 0 rfl)).1.wf (m.round).toNat (by omega))).1.len
 refine rs S (tr (mv rfl)<|tr (ov fun S=>x_nilck (S.e rfl))<|tr (fldi 0 0 rfl uT166)<|tr (ldk 0 sC45 rfl rfl rfl)<|tr (mv rfl)<|tr (idxi uT45 sZ122 rfl rfl (m.round).toNat (by omega) (by omega) (((S.u 0 rfl)).1.adr (i := (m.round).toNat) (by omega)))<|tr (ov fun S=>x_load sC122 (S.e rfl) (((S.u 0 rfl)).1.cell (m.round).toNat (by omega) 0 _ rfl))<|tr (leni uT122 rfl)<|la (mv rfl)) ?_; clear S; intro a u S
 refine wp_block ?_
 replace S := S.oda (E := slE (slE chgE)) (x := m.rounds) (S.u 0 rfl)
 replace S := S.oda (E := slE (slE intE)) (x := m.states) (S.u 1 rfl)
 have hk7 : machK (⟨m.rounds, m.states, m.round, m.back, (m.seq + 1), (Sl.mk m.target.a m.target.c m.target.xs), (Sl.mk m.known.a m.known.c m.known.xs), (Sl.mk m.waiting.a m.waiting.c m.waiting.xs), (Sl.mk m.sent.a m.sent.c m.sent.xs)⟩ : Mach) := ⟨m_k.1, (show inI64 (m.seq + 1) from ⟨by omega, by omega⟩)⟩
 replace S := (show St _ _ _ _ _ _ ([] ++ machF m_b (⟨m.rounds, m.states, m.round, m.back, (m.seq + 1), (Sl.mk m.target.a m.target.c m.target.xs), (Sl.mk m.known.a m.known.c m.known.xs), (Sl.mk m.waiting.a m.waiting.c m.waiting.xs), (Sl.mk m.sent.a m.sent.c m.sent.xs)⟩ : Mach)) _ _ from S).cls
 replace S := (show St _ _ _ _ _ _ [bnO (machF m_b (⟨m.rounds, m.states, m.round, m.back, (m.seq + 1), (Sl.mk m.target.a m.target.c m.target.xs), (Sl.mk m.known.a m.known.c m.known.xs), (Sl.mk m.waiting.a m.waiting.c m.waiting.xs), (Sl.mk m.sent.a m.sent.c m.sent.xs)⟩ : Mach))] _ _ from S)
 refine lp2 (fun (j1 : Nat) (mj : Mach) => [(0, pT m_b 0), (2, iI m.round), (36, sV (m.rounds.xs.getD ((m.round).toNat) (slE chgE).dflt)), (37, iN (m.rounds.xs.getD ((m.round).toNat) (slE chgE).dflt).xs.length), (38, iN j1)]) (fun (j1 : Nat) (mj : Mach) => [bnO (machF m_b mj)]) (fun (j1 : Nat) (mj : Mach) => machK mj ∧ (j1 ≤ (m.rounds.xs.getD (m.round).toNat (slE chgE).dflt).xs.length ∧ KeepM m mj ∧ absM mj = ((m.rounds.xs.getD (m.round).toNat (slE chgE).dflt).xs.take j1).foldl (chgC ((stsM m).getD (m.round).toNat [])) {absM m with seq := m.seq + 1})) (fun (j1 : Nat) (mj : Mach) => (m.rounds.xs.getD (m.round).toNat (slE chgE).dflt).xs.length - j1) S 0 (⟨m.rounds, m.states, m.round, m.back, (m.seq + 1), (Sl.mk m.target.a m.target.c m.target.xs), (Sl.mk m.known.a m.known.c m.known.xs), (Sl.mk m.waiting.a m.waiting.c m.waiting.xs), (Sl.mk m.sent.a m.sent.c m.sent.xs)⟩ : Mach) (subM rfl) rfl ?_ ?_
 ·refine ⟨hk7, ?_⟩
  exact ⟨Nat.zero_le _, ⟨rfl, rfl⟩, rfl⟩
 clear S; intro j1 mj a u S hR
 obtain ⟨hk_mj, hR⟩ := hR
 obtain ⟨hj1, hKm, hfold⟩ := hR
 have hRd := rd_of PO (k := (m.round).toNat) (by omega)
 rw [rds_at] at hRd
 have hQ : ChgK m.target.xs.length {absM m with seq := m.seq + 1} (absM mj) := by rw [hfold]; exact foldl_chgK _ (ChgK.refl hwt) (fun x hx => hRd.2 x (List.mem_of_mem_take hx))
 have q1 : mj.round = m.round := hQ.rd
 have q2 : mj.back = m.back := hQ.bk
 have q3 : mj.seq = m.seq + 1 := hQ.sq
 have q4 : mj.target.xs.length = m.target.xs.length := hQ.tg
 have q5 : Asc m.target.xs.length mj.waiting.xs := hQ.wt
 have q6 : mj.sent.xs = m.sent.xs := hQ.sn
 have q6l := congrArg List.length q6
 have q5l := q5.len
 have hwj : mj.waiting.xs.Pairwise (· < ·) ∧ mj.waiting.xs.length ≤ 1000 := ⟨q5.1, by omega⟩
 have hst := st_of PO (k := (m.round).toNat) (by omega)
 rw [sts_at] at hst
 have q7 : mj.states.xs.length = m.states.xs.length := by rw [hKm.2]
 have q8 : (mj.states.xs.getD (m.round).toNat (slE intE).dflt).xs.length = m.target.xs.length := by rw [hKm.2]; exact hst
 refine rs S (la (lssi rfl rfl)) ?_; clear S; intro a u S
 refine wp_seq ?_
 refine cd S rfl ?_ ?_
 ·intro hc2
  have hx := hRd.2 _ (getD_mem (d := chgE.dflt) (i := j1) (by omega))
  refine wp_skip (then_n (wp_seq (wp_block (rs0 ?_))))
  obtain ⟨hl10, hu10⟩ : inI64 ((((m.rounds.xs.getD ((m.round).toNat) (slE chgE).dflt).xs).getD j1 chgE.dflt).dev) := id ((((((S.u 0 rfl)).1.wf (m.round).toNat (by omega))).1.wf j1 (by omega)).1)
  obtain ⟨hl11, hu11⟩ : inI64 ((((m.rounds.xs.getD ((m.round).toNat) (slE chgE).dflt).xs).getD j1 chgE.dflt).ver) := id ((((((S.u 0 rfl)).1.wf (m.round).toNat (by omega))).1.wf j1 (by omega)).2)
  refine sp S (tr (idxi uT122 sZ124 rfl rfl j1 rfl (by omega) (((((S.u 0 rfl)).1.wf (m.round).toNat (by omega))).1.adr (i := j1) (by omega)))<|la (ov fun S=>x_ldw (S.e rfl) (((((S.u 0 rfl)).1.wf (m.round).toNat (by omega))).1.wcell j1 (by omega) _ rfl _ rfl) wD124)) ?_; clear S; intro a u S
  refine nbp S (x_allocz _ iZ124 rfl) ?_; clear S; intro a u b4 S
  refine ens S (la (stkw 1 rfl rfl rfl)) ?_; clear S; intro a u S
  refine wp_seq ?_
  replace S := S.pk [1, 0] (os' := [blO b4 (chgE.cells (((m.rounds.xs.getD ((m.round).toNat) (slE chgE).dflt).xs).getD j1 chgE.dflt)) 124, bnO (machF m_b mj)])
  replace S := (show St _ _ _ _ _ _ [blO b4 (chgE.cells (((m.rounds.xs.getD ((m.round).toNat) (slE chgE).dflt).xs).getD j1 chgE.dflt)) 124, blO m_b [sV mj.rounds, sV mj.states, iI mj.round, bD (mj.back = true), iI mj.seq, sV mj.target, sV mj.known, sV mj.waiting, sV mj.sent] 166, rwO intE 3 0 mj.target.a mj.target.c mj.target.xs, rwO intE 3 0 mj.known.a mj.known.c mj.known.xs, rwO intE 3 0 mj.waiting.a mj.waiting.c mj.waiting.xs, rwO intE 3 0 mj.sent.a mj.sent.c mj.sent.xs, daO (slE (slE chgE)) mj.rounds, daO (slE (slE intE)) mj.states] _ _ from S.opn (ks := [blO b4 (chgE.cells (((m.rounds.xs.getD ((m.round).toNat) (slE chgE).dflt).xs).getD j1 chgE.dflt)) 124]))
  replace S := S.ar (wfF (slE (slE chgE)) mj.rounds) (S.da 6 rfl)
  replace S := S.ar (wfF (slE (slE intE)) mj.states) (S.da 7 rfl)
  replace S := S.pk [0, 1, 2, 3, 4, 5] (os' := [blO b4 (chgE.cells (((m.rounds.xs.getD ((m.round).toNat) (slE chgE).dflt).xs).getD j1 chgE.dflt)) 124, blO m_b [sV mj.rounds, sV mj.states, iI mj.round, bD (mj.back = true), iI mj.seq, sV mj.target, sV mj.known, sV mj.waiting, sV mj.sent] 166, rwO intE 3 0 mj.target.a mj.target.c mj.target.xs, rwO intE 3 0 mj.known.a mj.known.c mj.known.xs, rwO intE 3 0 mj.waiting.a mj.waiting.c mj.waiting.xs, rwO intE 3 0 mj.sent.a mj.sent.c mj.sent.xs])
  have : mj.target.xs.length ≤ 9223372036854775807 := (S.row 2 rfl).len_le
  have : mj.known.xs.length ≤ 9223372036854775807 := (S.row 3 rfl).len_le
  have : mj.waiting.xs.length ≤ 9223372036854775807 := (S.row 4 rfl).len_le
  have : mj.sent.xs.length ≤ 9223372036854775807 := (S.row 5 rfl).len_le
  have : mj.rounds.xs.length ≤ 9223372036854775807 := ((S.u 2 rfl)).1.len
  have : mj.states.xs.length ≤ 9223372036854775807 := ((S.u 3 rfl)).1.len
  obtain ⟨_, _⟩ : inI64 mj.round := hk_mj.1
  obtain ⟨_, _⟩ : inI64 mj.seq := hk_mj.2
  refine dr (P := Try.prog) S 10 [] [(42, .is _), (43, .is _), (44, .is _), (45, .is _), (46, .is _), (47, .is _), (48, .is _), (49, .is _), (50, .is _), (51, .is _)] [[], [42], [43], [44], [45], [], [47], [], [49], [46, 48]] [50, 51] _ ⟨qd (mv rfl), qd (ov fun S=>x_nilck (S.e rfl)), qd (fldi 0 2 rfl uT166), qd (fldi (0 + 2) 3 rfl uT57), qd (ldk 1 sC22 rfl rfl rfl), qd (fldi 0 0 rfl uT124), qd (ldk 0 sC3 rfl rfl rfl), qd (fldi 0 1 rfl uT124), qd (ldk 0 sC3 rfl rfl rfl), qd (ov fun S=>x_idx uT22 sZ3 (S.e rfl) (S.e rfl) ((((m.rounds.xs.getD ((m.round).toNat) (slE chgE).dflt).xs).getD j1 chgE.dflt).dev).toNat (by omega) (by omega) (row_off (S.row 2 rfl) (m := ((((m.rounds.xs.getD ((m.round).toNat) (slE chgE).dflt).xs).getD j1 chgE.dflt).dev).toNat) (by omega))), trivial⟩ ?_
  clear S; intro a u S G hE
  refine sp S (la (str (E := intE) 2 (by kernel_rfl) rfl rfl rfl ((((m.rounds.xs.getD ((m.round).toNat) (slE chgE).dflt).xs).getD j1 chgE.dflt).dev).toNat 0 (by omega) (by first | decide | exact Nat.one_pos | exact Nat.succ_pos _) ((((m.rounds.xs.getD ((m.round).toNat) (slE chgE).dflt).xs).getD j1 chgE.dflt).ver) (fun S=>(((((S.u 0 rfl)).1.wf (m.round).toNat (by omega))).1.wf j1 (by omega)).2) rfl (by first | rfl | (show _ = _ * 1 + 0; omega) | (simp [intE]; omega) | simp [intE]) rfl)) ?_; clear S; intro a u S
  have hls12 : (mj.target.xs.set ((((m.rounds.xs.getD ((m.round).toNat) (slE chgE).dflt).xs).getD j1 chgE.dflt).dev).toNat ((((m.rounds.xs.getD ((m.round).toNat) (slE chgE).dflt).xs).getD j1 chgE.dflt).ver)).length = mj.target.xs.length := by simp
  refine ent (wp_seq ?_)
  refine rs S (tr (mv rfl)<|tr (ov fun S=>x_nilck (S.e rfl))<|tr (fldi 0 2 rfl uT166)<|tr (fldi (0 + 2) 1 rfl uT57)<|la (ldk 1 sC4 rfl rfl rfl)) ?_; clear S; intro a u S
  refine cd S rfl ?_ ?_
  ·intro hc3
   have hn14 : ((mj.states.xs.getD ((m.round).toNat) (slE intE).dflt).xs).length ≤ 9223372036854775807 := ((((S.u 3 rfl)).1.wf (m.round).toNat (by omega))).1.len
   obtain ⟨hl15, hu15⟩ : inI64 (((mj.states.xs.getD ((m.round).toNat) (slE intE).dflt).xs).getD (((((m.rounds.xs.getD ((m.round).toNat) (slE chgE).dflt).xs).getD j1 chgE.dflt).dev).toNat) intE.dflt) := id (((((S.u 3 rfl)).1.wf (m.round).toNat (by omega))).1.wf ((((m.rounds.xs.getD ((m.round).toNat) (slE chgE).dflt).xs).getD j1 chgE.dflt).dev).toNat (by omega))
   refine dr (P := Try.prog) S 19 [] [(57, .is _), (58, .is _), (59, .is _), (60, .is _), (61, .is _), (62, .is _), (63, .is _), (64, .is _), (65, .is _), (66, .is _), (67, .is _), (68, .is _), (69, .is _), (70, .is _), (71, .is _), (72, .is _), (73, .is _), (74, .is _), (75, .is _)] [[], [57], [58], [59], [60], [], [62], [], [64], [65], [66], [], [67, 68], [69], [], [71], [70, 72], [73], [61, 63]] [74, 75] _ ⟨qd (mv rfl), qd (ov fun S=>x_nilck (S.e rfl)), qd (fldi 0 2 rfl uT166), qd (fldi (0 + 2) 3 rfl uT57), qd (ldk 1 sC22 rfl rfl rfl), qd (fldi 0 0 rfl uT124), qd (ldk 0 sC3 rfl rfl rfl), qd (mv rfl), qd (ov fun S=>x_nilck (S.e rfl)), qd (fldi 0 1 rfl uT166), qd (ldk 1 sC66 rfl rfl rfl), qd (mv rfl), qd (idxi uT66 sZ22 rfl rfl (m.round).toNat (by omega) (by omega) (((S.u 3 rfl)).1.adr (i := (m.round).toNat) (by omega))), qd (ov fun S=>x_load sC22 (S.e rfl) (((S.u 3 rfl)).1.cell (m.round).toNat (by omega) 0 _ rfl)), qd (fldi 0 0 rfl uT124), qd (ldk 0 sC3 rfl rfl rfl), qd (idxi uT22 sZ3 rfl rfl ((((m.rounds.xs.getD ((m.round).toNat) (slE chgE).dflt).xs).getD j1 chgE.dflt).dev).toNat (by omega) (by omega) (((((S.u 3 rfl)).1.wf (m.round).toNat (by omega))).1.adr (i := ((((m.rounds.xs.getD ((m.round).toNat) (slE chgE).dflt).xs).getD j1 chgE.dflt).dev).toNat) (by omega))), qd (ov fun S=>x_load sC3 (S.e rfl) (((((S.u 3 rfl)).1.wf (m.round).toNat (by omega))).1.cell ((((m.rounds.xs.getD ((m.round).toNat) (slE chgE).dflt).xs).getD j1 chgE.dflt).dev).toNat (by omega) 0 _ rfl)), qd (ov fun S=>x_idx uT22 sZ3 (S.e rfl) (S.e rfl) ((((m.rounds.xs.getD ((m.round).toNat) (slE chgE).dflt).xs).getD j1 chgE.dflt).dev).toNat (by omega) (by omega) (row_off (S.row 2 rfl) (m := ((((m.rounds.xs.getD ((m.round).toNat) (slE chgE).dflt).xs).getD j1 chgE.dflt).dev).toNat) (by omega))), trivial⟩ ?_
   clear S; intro a u S G hE
   obtain ⟨hl16, hu16⟩ : inI64 (((mj.states.xs.getD ((m.round).toNat) (slE intE).dflt).xs).getD (((((m.rounds.xs.getD ((m.round).toNat) (slE chgE).dflt).xs).getD j1 chgE.dflt).dev).toNat) intE.dflt) := id (((((S.u 3 rfl)).1.wf (m.round).toNat (by omega))).1.wf ((((m.rounds.xs.getD ((m.round).toNat) (slE chgE).dflt).xs).getD j1 chgE.dflt).dev).toNat (by omega))
   obtain ⟨hl17, hu17⟩ : inI64 m.round := id m_k.1
   refine sp S (la (str (E := intE) 2 (by kernel_rfl) rfl rfl rfl ((((m.rounds.xs.getD ((m.round).toNat) (slE chgE).dflt).xs).getD j1 chgE.dflt).dev).toNat 0 (by omega) (by first | decide | exact Nat.one_pos | exact Nat.succ_pos _) (((mj.states.xs.getD ((m.round).toNat) (slE intE).dflt).xs).getD (((((m.rounds.xs.getD ((m.round).toNat) (slE chgE).dflt).xs).getD j1 chgE.dflt).dev).toNat) intE.dflt) (fun S=>(((((S.u 3 rfl)).1.wf (m.round).toNat (by omega))).1.wf ((((m.rounds.xs.getD ((m.round).toNat) (slE chgE).dflt).xs).getD j1 chgE.dflt).dev).toNat (by omega))) rfl (by first | rfl | (show _ = _ * 1 + 0; omega) | (simp [intE]; omega) | simp [intE]) rfl)) ?_; clear S; intro a u S
   have hls18 : ((mj.target.xs.set ((((m.rounds.xs.getD ((m.round).toNat) (slE chgE).dflt).xs).getD j1 chgE.dflt).dev).toNat ((((m.rounds.xs.getD ((m.round).toNat) (slE chgE).dflt).xs).getD j1 chgE.dflt).ver)).set ((((m.rounds.xs.getD ((m.round).toNat) (slE chgE).dflt).xs).getD j1 chgE.dflt).dev).toNat (((mj.states.xs.getD ((m.round).toNat) (slE intE).dflt).xs).getD (((((m.rounds.xs.getD ((m.round).toNat) (slE chgE).dflt).xs).getD j1 chgE.dflt).dev).toNat) intE.dflt)).length = mj.target.xs.length := by simp
   refine ent (r0 ?_)
   refine sp S (tr (mv rfl)<|tr (fldi 0 0 rfl uT124)<|la (ldk 0 sC3 rfl rfl rfl)) ?_; clear S; intro a u S
   replace S := (show St _ _ _ _ _ _ [blO b4 (chgE.cells (((m.rounds.xs.getD ((m.round).toNat) (slE chgE).dflt).xs).getD j1 chgE.dflt)) 124, blO m_b [sV mj.rounds, sV mj.states, iI mj.round, bD (mj.back = true), iI mj.seq, .slice mj.target.a (((mj.target.xs.set ((((m.rounds.xs.getD ((m.round).toNat) (slE chgE).dflt).xs).getD j1 chgE.dflt).dev).toNat ((((m.rounds.xs.getD ((m.round).toNat) (slE chgE).dflt).xs).getD j1 chgE.dflt).ver)).set ((((m.rounds.xs.getD ((m.round).toNat) (slE chgE).dflt).xs).getD j1 chgE.dflt).dev).toNat (((mj.states.xs.getD ((m.round).toNat) (slE intE).dflt).xs).getD (((((m.rounds.xs.getD ((m.round).toNat) (slE chgE).dflt).xs).getD j1 chgE.dflt).dev).toNat) intE.dflt)).length) mj.target.c, sV mj.known, sV mj.waiting, sV mj.sent] 166, rwO intE 3 0 mj.target.a mj.target.c ((mj.target.xs.set ((((m.rounds.xs.getD ((m.round).toNat) (slE chgE).dflt).xs).getD j1 chgE.dflt).dev).toNat ((((m.rounds.xs.getD ((m.round).toNat) (slE chgE).dflt).xs).getD j1 chgE.dflt).ver)).set ((((m.rounds.xs.getD ((m.round).toNat) (slE chgE).dflt).xs).getD j1 chgE.dflt).dev).toNat (((mj.states.xs.getD ((m.round).toNat) (slE intE).dflt).xs).getD (((((m.rounds.xs.getD ((m.round).toNat) (slE chgE).dflt).xs).getD j1 chgE.dflt).dev).toNat) intE.dflt)), rwO intE 3 0 mj.known.a mj.known.c mj.known.xs, rwO intE 3 0 mj.waiting.a mj.waiting.c mj.waiting.xs, rwO intE 3 0 mj.sent.a mj.sent.c mj.sent.xs] _ _ from S.k1s 1 rfl (blO m_b [sV mj.rounds, sV mj.states, iI mj.round, bD (mj.back = true), iI mj.seq, .slice mj.target.a (((mj.target.xs.set ((((m.rounds.xs.getD ((m.round).toNat) (slE chgE).dflt).xs).getD j1 chgE.dflt).dev).toNat ((((m.rounds.xs.getD ((m.round).toNat) (slE chgE).dflt).xs).getD j1 chgE.dflt).ver)).set ((((m.rounds.xs.getD ((m.round).toNat) (slE chgE).dflt).xs).getD j1 chgE.dflt).dev).toNat (((mj.states.xs.getD ((m.round).toNat) (slE intE).dflt).xs).getD (((((m.rounds.xs.getD ((m.round).toNat) (slE chgE).dflt).xs).getD j1 chgE.dflt).dev).toNat) intE.dflt)).length) mj.target.c, sV mj.known, sV mj.waiting, sV mj.sent] 166) rfl S.s (Ch.refl _) (by have hb := S.k 1 rfl; simp only [blO, List.length_set, List.length_replicate]; exact hb))
   replace S := S.oda (E := slE (slE chgE)) (x := mj.rounds) (S.u 2 rfl)
   replace S := S.oda (E := slE (slE intE)) (x := mj.states) (S.u 3 rfl)
   have hk20 : machK (⟨mj.rounds, mj.states, mj.round, mj.back, mj.seq, (Sl.mk mj.target.a mj.target.c ((mj.target.xs.set ((((m.rounds.xs.getD ((m.round).toNat) (slE chgE).dflt).xs).getD j1 chgE.dflt).dev).toNat ((((m.rounds.xs.getD ((m.round).toNat) (slE chgE).dflt).xs).getD j1 chgE.dflt).ver)).set ((((m.rounds.xs.getD ((m.round).toNat) (slE chgE).dflt).xs).getD j1 chgE.dflt).dev).toNat (((mj.states.xs.getD ((m.round).toNat) (slE intE).dflt).xs).getD (((((m.rounds.xs.getD ((m.round).toNat) (slE chgE).dflt).xs).getD j1 chgE.dflt).dev).toNat) intE.dflt))), (Sl.mk mj.known.a mj.known.c mj.known.xs), (Sl.mk mj.waiting.a mj.waiting.c mj.waiting.xs), (Sl.mk mj.sent.a mj.sent.c mj.sent.xs)⟩ : Mach) := ⟨hk_mj.1, hk_mj.2⟩
   replace S := (show St _ _ _ _ _ _ ([blO b4 (chgE.cells (((m.rounds.xs.getD ((m.round).toNat) (slE chgE).dflt).xs).getD j1 chgE.dflt)) 124] ++ machF m_b (⟨mj.rounds, mj.states, mj.round, mj.back, mj.seq, (Sl.mk mj.target.a mj.target.c ((mj.target.xs.set ((((m.rounds.xs.getD ((m.round).toNat) (slE chgE).dflt).xs).getD j1 chgE.dflt).dev).toNat ((((m.rounds.xs.getD ((m.round).toNat) (slE chgE).dflt).xs).getD j1 chgE.dflt).ver)).set ((((m.rounds.xs.getD ((m.round).toNat) (slE chgE).dflt).xs).getD j1 chgE.dflt).dev).toNat (((mj.states.xs.getD ((m.round).toNat) (slE intE).dflt).xs).getD (((((m.rounds.xs.getD ((m.round).toNat) (slE chgE).dflt).xs).getD j1 chgE.dflt).dev).toNat) intE.dflt))), (Sl.mk mj.known.a mj.known.c mj.known.xs), (Sl.mk mj.waiting.a mj.waiting.c mj.waiting.xs), (Sl.mk mj.sent.a mj.sent.c mj.sent.xs)⟩ : Mach)) _ _ from S).cls
   replace S := (show St _ _ _ _ _ _ [blO b4 (chgE.cells (((m.rounds.xs.getD ((m.round).toNat) (slE chgE).dflt).xs).getD j1 chgE.dflt)) 124, bnO (machF m_b (⟨mj.rounds, mj.states, mj.round, mj.back, mj.seq, (Sl.mk mj.target.a mj.target.c ((mj.target.xs.set ((((m.rounds.xs.getD ((m.round).toNat) (slE chgE).dflt).xs).getD j1 chgE.dflt).dev).toNat ((((m.rounds.xs.getD ((m.round).toNat) (slE chgE).dflt).xs).getD j1 chgE.dflt).ver)).set ((((m.rounds.xs.getD ((m.round).toNat) (slE chgE).dflt).xs).getD j1 chgE.dflt).dev).toNat (((mj.states.xs.getD ((m.round).toNat) (slE intE).dflt).xs).getD (((((m.rounds.xs.getD ((m.round).toNat) (slE chgE).dflt).xs).getD j1 chgE.dflt).dev).toNat) intE.dflt))), (Sl.mk mj.known.a mj.known.c mj.known.xs), (Sl.mk mj.waiting.a mj.waiting.c mj.waiting.xs), (Sl.mk mj.sent.a mj.sent.c mj.sent.xs)⟩ : Mach))] _ _ from S)
   obtain ⟨y21, hy21⟩ : ∃ y : Mach, (⟨mj.rounds, mj.states, mj.round, mj.back, mj.seq, (Sl.mk mj.target.a mj.target.c ((mj.target.xs.set ((((m.rounds.xs.getD ((m.round).toNat) (slE chgE).dflt).xs).getD j1 chgE.dflt).dev).toNat ((((m.rounds.xs.getD ((m.round).toNat) (slE chgE).dflt).xs).getD j1 chgE.dflt).ver)).set ((((m.rounds.xs.getD ((m.round).toNat) (slE chgE).dflt).xs).getD j1 chgE.dflt).dev).toNat (((mj.states.xs.getD ((m.round).toNat) (slE intE).dflt).xs).getD (((((m.rounds.xs.getD ((m.round).toNat) (slE chgE).dflt).xs).getD j1 chgE.dflt).dev).toNat) intE.dflt))), (Sl.mk mj.known.a mj.known.c mj.known.xs), (Sl.mk mj.waiting.a mj.waiting.c mj.waiting.xs), (Sl.mk mj.sent.a mj.sent.c mj.sent.xs)⟩ : Mach) = y := ⟨_, rfl⟩; rw [hy21] at S hk20
   refine cl S (cWait _ _ (S.xx (ow [bnO (machF m_b y21)])) m_b y21 (S.mF (ks := [blO b4 (chgE.cells (((m.rounds.xs.getD ((m.round).toNat) (slE chgE).dflt).xs).getD j1 chgE.dflt)) 124]) (fs := [bnO (machF m_b y21)])) (S.nfF (ks := [blO b4 (chgE.cells (((m.rounds.xs.getD ((m.round).toNat) (slE chgE).dflt).xs).getD j1 chgE.dflt)) 124]) (fs := [bnO (machF m_b y21)]) hD) hk20 (S.dF (ks := [blO b4 (chgE.cells (((m.rounds.xs.getD ((m.round).toNat) (slE chgE).dflt).xs).getD j1 chgE.dflt)) 124]) (fs := [bnO (machF m_b y21)]) 0 rfl (mo_bn (mo_mach _ _))) ((((m.rounds.xs.getD ((m.round).toNat) (slE chgE).dflt).xs).getD j1 chgE.dflt).dev) (((((S.u 0 rfl)).1.wf (m.round).toNat (by omega))).1.wf j1 (by omega)).1 (by subst hy21; exact (by assumption))) cB122 ?_
   rintro e u ⟨m_t79, rfl, hk_m_t79, hK_m_t79, hq_m_t79, T0⟩; refine ⟨_, rfl, fun a s => ?_⟩
   have S2 := S.kF (ks := [blO b4 (chgE.cells (((m.rounds.xs.getD ((m.round).toNat) (slE chgE).dflt).xs).getD j1 chgE.dflt)) 124]) (fs := [bnO (machF m_b y21)]) [bnO (machF m_b m_t79)] s T0 ⟨hK_m_t79, trivial⟩ ⟨(mo_bn (mo_mach _ _)), trivial⟩
   replace S2 := (show St _ _ _ _ _ _ [blO b4 (chgE.cells (((m.rounds.xs.getD ((m.round).toNat) (slE chgE).dflt).xs).getD j1 chgE.dflt)) 124, bnO (machF m_b m_t79)] _ _ from S2)
   clear S; have S := S2; clear S2 s T0 hK_m_t79
   subst hy21
   refine nn (blk_n (then_n ?_))
   refine rg S (tr (addi ((j1 + 1 : Nat) : Int) rfl rfl (w_i64 (by omega)))<|la (mv rfl)) ?_; clear S; intro a u S
   replace S := S.pk [1]
   refine then_n ?_
   refine ⟨(j1 + 1), m_t79, S.re (subM rfl) rfl rfl, ?_, ?_⟩
   ·refine ⟨hk_m_t79, ?_⟩
    refine ⟨by omega, ⟨hq_m_t79.1.1.trans hKm.1, hq_m_t79.1.2.trans hKm.2⟩, ?_⟩
    rw [foldl_take _ _ _ chgE.dflt (by omega), ← hfold]
    refine hq_m_t79.2.trans ?_
    rw [sts_at]
    unfold chgC absM
    dsimp only
    first
    | (rw [if_pos hc3]; simp only [hKm.2, List.set_set]; rfl)
    | (rw [if_neg hc4])
   omega
  intro hc4
  refine wp_skip (then_n (r0 ?_))
  refine sp S (tr (mv rfl)<|tr (fldi 0 0 rfl uT124)<|la (ldk 0 sC3 rfl rfl rfl)) ?_; clear S; intro a u S
  replace S := (show St _ _ _ _ _ _ [blO b4 (chgE.cells (((m.rounds.xs.getD ((m.round).toNat) (slE chgE).dflt).xs).getD j1 chgE.dflt)) 124, blO m_b [sV mj.rounds, sV mj.states, iI mj.round, bD (mj.back = true), iI mj.seq, .slice mj.target.a ((mj.target.xs.set ((((m.rounds.xs.getD ((m.round).toNat) (slE chgE).dflt).xs).getD j1 chgE.dflt).dev).toNat ((((m.rounds.xs.getD ((m.round).toNat) (slE chgE).dflt).xs).getD j1 chgE.dflt).ver)).length) mj.target.c, sV mj.known, sV mj.waiting, sV mj.sent] 166, rwO intE 3 0 mj.target.a mj.target.c (mj.target.xs.set ((((m.rounds.xs.getD ((m.round).toNat) (slE chgE).dflt).xs).getD j1 chgE.dflt).dev).toNat ((((m.rounds.xs.getD ((m.round).toNat) (slE chgE).dflt).xs).getD j1 chgE.dflt).ver)), rwO intE 3 0 mj.known.a mj.known.c mj.known.xs, rwO intE 3 0 mj.waiting.a mj.waiting.c mj.waiting.xs, rwO intE 3 0 mj.sent.a mj.sent.c mj.sent.xs] _ _ from S.k1s 1 rfl (blO m_b [sV mj.rounds, sV mj.states, iI mj.round, bD (mj.back = true), iI mj.seq, .slice mj.target.a ((mj.target.xs.set ((((m.rounds.xs.getD ((m.round).toNat) (slE chgE).dflt).xs).getD j1 chgE.dflt).dev).toNat ((((m.rounds.xs.getD ((m.round).toNat) (slE chgE).dflt).xs).getD j1 chgE.dflt).ver)).length) mj.target.c, sV mj.known, sV mj.waiting, sV mj.sent] 166) rfl S.s (Ch.refl _) (by have hb := S.k 1 rfl; simp only [blO, List.length_set, List.length_replicate]; exact hb))
  replace S := S.oda (E := slE (slE chgE)) (x := mj.rounds) (S.u 2 rfl)
  replace S := S.oda (E := slE (slE intE)) (x := mj.states) (S.u 3 rfl)
  have hk24 : machK (⟨mj.rounds, mj.states, mj.round, mj.back, mj.seq, (Sl.mk mj.target.a mj.target.c (mj.target.xs.set ((((m.rounds.xs.getD ((m.round).toNat) (slE chgE).dflt).xs).getD j1 chgE.dflt).dev).toNat ((((m.rounds.xs.getD ((m.round).toNat) (slE chgE).dflt).xs).getD j1 chgE.dflt).ver))), (Sl.mk mj.known.a mj.known.c mj.known.xs), (Sl.mk mj.waiting.a mj.waiting.c mj.waiting.xs), (Sl.mk mj.sent.a mj.sent.c mj.sent.xs)⟩ : Mach) := ⟨hk_mj.1, hk_mj.2⟩
  replace S := (show St _ _ _ _ _ _ ([blO b4 (chgE.cells (((m.rounds.xs.getD ((m.round).toNat) (slE chgE).dflt).xs).getD j1 chgE.dflt)) 124] ++ machF m_b (⟨mj.rounds, mj.states, mj.round, mj.back, mj.seq, (Sl.mk mj.target.a mj.target.c (mj.target.xs.set ((((m.rounds.xs.getD ((m.round).toNat) (slE chgE).dflt).xs).getD j1 chgE.dflt).dev).toNat ((((m.rounds.xs.getD ((m.round).toNat) (slE chgE).dflt).xs).getD j1 chgE.dflt).ver))), (Sl.mk mj.known.a mj.known.c mj.known.xs), (Sl.mk mj.waiting.a mj.waiting.c mj.waiting.xs), (Sl.mk mj.sent.a mj.sent.c mj.sent.xs)⟩ : Mach)) _ _ from S).cls
  replace S := (show St _ _ _ _ _ _ [blO b4 (chgE.cells (((m.rounds.xs.getD ((m.round).toNat) (slE chgE).dflt).xs).getD j1 chgE.dflt)) 124, bnO (machF m_b (⟨mj.rounds, mj.states, mj.round, mj.back, mj.seq, (Sl.mk mj.target.a mj.target.c (mj.target.xs.set ((((m.rounds.xs.getD ((m.round).toNat) (slE chgE).dflt).xs).getD j1 chgE.dflt).dev).toNat ((((m.rounds.xs.getD ((m.round).toNat) (slE chgE).dflt).xs).getD j1 chgE.dflt).ver))), (Sl.mk mj.known.a mj.known.c mj.known.xs), (Sl.mk mj.waiting.a mj.waiting.c mj.waiting.xs), (Sl.mk mj.sent.a mj.sent.c mj.sent.xs)⟩ : Mach))] _ _ from S)
  obtain ⟨y25, hy25⟩ : ∃ y : Mach, (⟨mj.rounds, mj.states, mj.round, mj.back, mj.seq, (Sl.mk mj.target.a mj.target.c (mj.target.xs.set ((((m.rounds.xs.getD ((m.round).toNat) (slE chgE).dflt).xs).getD j1 chgE.dflt).dev).toNat ((((m.rounds.xs.getD ((m.round).toNat) (slE chgE).dflt).xs).getD j1 chgE.dflt).ver))), (Sl.mk mj.known.a mj.known.c mj.known.xs), (Sl.mk mj.waiting.a mj.waiting.c mj.waiting.xs), (Sl.mk mj.sent.a mj.sent.c mj.sent.xs)⟩ : Mach) = y := ⟨_, rfl⟩; rw [hy25] at S hk24
  refine cl S (cWait _ _ (S.xx (ow [bnO (machF m_b y25)])) m_b y25 (S.mF (ks := [blO b4 (chgE.cells (((m.rounds.xs.getD ((m.round).toNat) (slE chgE).dflt).xs).getD j1 chgE.dflt)) 124]) (fs := [bnO (machF m_b y25)])) (S.nfF (ks := [blO b4 (chgE.cells (((m.rounds.xs.getD ((m.round).toNat) (slE chgE).dflt).xs).getD j1 chgE.dflt)) 124]) (fs := [bnO (machF m_b y25)]) hD) hk24 (S.dF (ks := [blO b4 (chgE.cells (((m.rounds.xs.getD ((m.round).toNat) (slE chgE).dflt).xs).getD j1 chgE.dflt)) 124]) (fs := [bnO (machF m_b y25)]) 0 rfl (mo_bn (mo_mach _ _))) ((((m.rounds.xs.getD ((m.round).toNat) (slE chgE).dflt).xs).getD j1 chgE.dflt).dev) (((((S.u 0 rfl)).1.wf (m.round).toNat (by omega))).1.wf j1 (by omega)).1 (by subst hy25; exact (by assumption))) cB122 ?_
  rintro e u ⟨m_t79, rfl, hk_m_t79, hK_m_t79, hq_m_t79, T0⟩; refine ⟨_, rfl, fun a s => ?_⟩
  have S2 := S.kF (ks := [blO b4 (chgE.cells (((m.rounds.xs.getD ((m.round).toNat) (slE chgE).dflt).xs).getD j1 chgE.dflt)) 124]) (fs := [bnO (machF m_b y25)]) [bnO (machF m_b m_t79)] s T0 ⟨hK_m_t79, trivial⟩ ⟨(mo_bn (mo_mach _ _)), trivial⟩
  replace S2 := (show St _ _ _ _ _ _ [blO b4 (chgE.cells (((m.rounds.xs.getD ((m.round).toNat) (slE chgE).dflt).xs).getD j1 chgE.dflt)) 124, bnO (machF m_b m_t79)] _ _ from S2)
  clear S; have S := S2; clear S2 s T0 hK_m_t79
  subst hy25
  refine nn (blk_n (then_n ?_))
  refine rg S (tr (addi ((j1 + 1 : Nat) : Int) rfl rfl (w_i64 (by omega)))<|la (mv rfl)) ?_; clear S; intro a u S
  replace S := S.pk [1]
  refine then_n ?_
  refine ⟨(j1 + 1), m_t79, S.re (subM rfl) rfl rfl, ?_, ?_⟩
  ·refine ⟨hk_m_t79, ?_⟩
   refine ⟨by omega, ⟨hq_m_t79.1.1.trans hKm.1, hq_m_t79.1.2.trans hKm.2⟩, ?_⟩
   rw [foldl_take _ _ _ chgE.dflt (by omega), ← hfold]
   refine hq_m_t79.2.trans ?_
   rw [sts_at]
   unfold chgC absM
   dsimp only
   first
   | (rw [if_pos hc3]; simp only [hKm.2, List.set_set]; rfl)
   | (rw [if_neg hc4])
  omega
 intro hc5
 refine wp_exit (then_e (then_e (blk_e (then_n ?_))))
 replace S := (show St _ _ _ _ _ _ [blO m_b [sV mj.rounds, sV mj.states, iI mj.round, bD (mj.back = true), iI mj.seq, sV mj.target, sV mj.known, sV mj.waiting, sV mj.sent] 166, rwO intE 3 0 mj.target.a mj.target.c mj.target.xs, rwO intE 3 0 mj.known.a mj.known.c mj.known.xs, rwO intE 3 0 mj.waiting.a mj.waiting.c mj.waiting.xs, rwO intE 3 0 mj.sent.a mj.sent.c mj.sent.xs, daO (slE (slE chgE)) mj.rounds, daO (slE (slE intE)) mj.states] _ _ from S.opn (ks := []))
 replace S := S.ar (wfF (slE (slE chgE)) mj.rounds) (S.da 5 rfl)
 replace S := S.ar (wfF (slE (slE intE)) mj.states) (S.da 6 rfl)
 replace S := S.pk [0, 1, 2, 3, 4] (os' := [blO m_b [sV mj.rounds, sV mj.states, iI mj.round, bD (mj.back = true), iI mj.seq, sV mj.target, sV mj.known, sV mj.waiting, sV mj.sent] 166, rwO intE 3 0 mj.target.a mj.target.c mj.target.xs, rwO intE 3 0 mj.known.a mj.known.c mj.known.xs, rwO intE 3 0 mj.waiting.a mj.waiting.c mj.waiting.xs, rwO intE 3 0 mj.sent.a mj.sent.c mj.sent.xs])
 have : mj.target.xs.length ≤ 9223372036854775807 := (S.row 1 rfl).len_le
 have : mj.known.xs.length ≤ 9223372036854775807 := (S.row 2 rfl).len_le
 have : mj.waiting.xs.length ≤ 9223372036854775807 := (S.row 3 rfl).len_le
 have : mj.sent.xs.length ≤ 9223372036854775807 := (S.row 4 rfl).len_le
 have : mj.rounds.xs.length ≤ 9223372036854775807 := ((S.u 2 rfl)).1.len
 have : mj.states.xs.length ≤ 9223372036854775807 := ((S.u 3 rfl)).1.len
 obtain ⟨_, _⟩ : inI64 mj.round := hk_mj.1
 obtain ⟨_, _⟩ : inI64 mj.seq := hk_mj.2
 refine lza3 (P := Try.prog) (s := .tmp 85) (x := .tmp 90) intE Unit S 10 0 81 (pT m_b 0) [] [(81, .is _), (82, .is _), (83, .is _), (84, .is _), (85, .is _), (86, .is _), (87, .is _), (88, .is _), (89, .is _), (90, .is _)] [[], [], [82], [83], [84], [], [86], [87], [88], [89]] [85, 90] 4 rfl (fun g => [(85, sV mj.sent), (90, sV mj.waiting)]) (fun g => True) (fun g => mj.waiting.xs) ⟨qd (mv rfl), qd (mv rfl), qd (ov fun S=>x_nilck (S.e rfl)), qd (fldi 0 8 rfl uT166), qd (ldk 0 sC22 rfl rfl rfl), qd (mv rfl), qd (ov fun S=>x_nilck (S.e rfl)), qd (fldi 0 2 rfl uT166), qd (fldi (0 + 2) 5 rfl uT57), qd (ldk 0 sC22 rfl rfl rfl), trivial⟩ (fun a w S => (x_move (S.e rfl))) ?_ ?_ uT22 iZ3
 ·intro a u S G hE
  exact ⟨(), _, _, _, S.s.sub (subM rfl), trivial, rfl, rfl, ((S.row 3 rfl).lat (by first | decide | exact Nat.one_pos | exact Nat.succ_pos _)), (S.row 3 rfl).cap_le.2, (S.row 3 rfl).wf, ⟨by unfold maxLen; (try simp only [List.length_cons, List.length_nil, List.length_append, List.length_map]); omega, by (try simp only [List.length_cons, List.length_nil, List.length_append, List.length_map]); omega⟩⟩
 clear S; intro g ad91 cap91 a u S hR
 refine en S (tr (ov fun S=>x_nilck (S.e rfl))<|tr (fldi 0 8 rfl uT166)<|la (stk 0 rfl rfl rfl)) ?_; clear S; intro a u S
 replace S := S.oda (E := slE (slE chgE)) (x := mj.rounds) (S.u 2 rfl)
 replace S := S.oda (E := slE (slE intE)) (x := mj.states) (S.u 3 rfl)
 have hk27 : machK (⟨mj.rounds, mj.states, mj.round, mj.back, mj.seq, (Sl.mk mj.target.a mj.target.c mj.target.xs), (Sl.mk mj.known.a mj.known.c mj.known.xs), (Sl.mk mj.waiting.a mj.waiting.c mj.waiting.xs), (Sl.mk ad91 cap91 (mj.sent.xs ++ mj.waiting.xs))⟩ : Mach) := ⟨hk_mj.1, hk_mj.2⟩
 replace S := (show St _ _ _ _ _ _ ([] ++ machF m_b (⟨mj.rounds, mj.states, mj.round, mj.back, mj.seq, (Sl.mk mj.target.a mj.target.c mj.target.xs), (Sl.mk mj.known.a mj.known.c mj.known.xs), (Sl.mk mj.waiting.a mj.waiting.c mj.waiting.xs), (Sl.mk ad91 cap91 (mj.sent.xs ++ mj.waiting.xs))⟩ : Mach)) _ _ from S).cls
 replace S := (show St _ _ _ _ _ _ [bnO (machF m_b (⟨mj.rounds, mj.states, mj.round, mj.back, mj.seq, (Sl.mk mj.target.a mj.target.c mj.target.xs), (Sl.mk mj.known.a mj.known.c mj.known.xs), (Sl.mk mj.waiting.a mj.waiting.c mj.waiting.xs), (Sl.mk ad91 cap91 (mj.sent.xs ++ mj.waiting.xs))⟩ : Mach))] _ _ from S)
 refine end0 rfl S.s ?_
 refine ⟨(⟨mj.rounds, mj.states, mj.round, mj.back, mj.seq, (Sl.mk mj.target.a mj.target.c mj.target.xs), (Sl.mk mj.known.a mj.known.c mj.known.xs), (Sl.mk mj.waiting.a mj.waiting.c mj.waiting.xs), (Sl.mk ad91 cap91 (mj.sent.xs ++ mj.waiting.xs))⟩ : Mach), rfl, hk27, (S.m.o _ (nth_mem (i := 0) rfl)), ?_, S.m.c⟩
 refine ⟨⟨hKm.1, hKm.2⟩, ?_⟩
 unfold startC
 rw [if_neg (by rw [hRl]; exact hc1), rds_at]
 have e := hfold
 rw [show j1 = (m.rounds.xs.getD (m.round).toNat (slE chgE).dflt).xs.length from by omega, List.take_length] at e
 simp only [absM] at e ⊢
 rw [← e]
end Go.Proofs.Ytobggnpnochnnaa.V
set_option linter.unusedVariables false
set_option linter.unusedSimpArgs false
namespace Go.Proofs.Ytobggnpnochnnaa.V
open Go.RowKit
section
variable {n : Nat} {rds : List (List Chg)} {sts : List (List Int)} {c : Ctl}
theorem startC_ok (P : PlanOK n rds sts) (h : CtlOK n rds.length c) (hs : 0 ≤ c.round → c.round < rds.length → (c.back = false → c.seq ≤ c.round) ∧ (c.back = true → c.seq + c.round ≤ 2 * rds.length + 1)) :
    CtlOK n rds.length (startC rds sts c) ∧ (startC rds sts c).round = c.round ∧ (startC rds sts c).back = c.back ∧ (startC rds sts c).sent.length ≤ c.sent.length + 1000 := by
  unfold startC
  split
  · exact ⟨h, rfl, rfl, by omega⟩
  · rename_i hr
    have hx := rd_of P (k := c.round.toNat) (by omega)
    have hQ : ChgK n {c with seq := c.seq + 1} ((rds.getD c.round.toNat []).foldl (chgC (sts.getD c.round.toNat [])) {c with seq := c.seq + 1}) := foldl_chgK _ (ChgK.refl h.wt) hx.2
    revert hQ
    generalize (rds.getD c.round.toNat []).foldl (chgC (sts.getD c.round.toNat [])) {c with seq := c.seq + 1} = c1
    intro hQ
    have hwl := hQ.wt.len
    have := P.n1
    refine ⟨⟨hQ.tg.trans h.tg, (congrArg List.length hQ.kn).trans h.kn, hQ.wt, ?_, ?_⟩, hQ.rd, hQ.bk, ?_⟩
    · show -1 ≤ c1.round ∧ c1.round ≤ _; rw [hQ.rd]; exact h.rd
    · show 0 ≤ c1.seq ∧ (c1.back = false → c1.seq ≤ c1.round + 1 ∧ 0 ≤ c1.round) ∧ (c1.back = true → c1.seq + c1.round ≤ _)
      rw [hQ.sq, hQ.bk, hQ.rd]
      have h1 := h.sq
      have h2 := hs (by omega) (by omega)
      refine ⟨by show 0 ≤ c.seq + 1; omega, fun e => ?_, fun e => ?_⟩
      · have := h2.1 e; show c.seq + 1 ≤ c.round + 1 ∧ 0 ≤ c.round; omega
      · have := h2.2 e; show c.seq + 1 + c.round ≤ _; omega
    · show (c1.sent ++ c1.waiting).length ≤ _
      have e := congrArg List.length hQ.sn
      rw [List.length_append]
      have e' : c1.sent.length = c.sent.length := e
      omega
def advC (rds : List (List Chg)) (sts : List (List Int)) : Nat → Ctl → Ctl
  | 0, c => c
  | f + 1, c => if 0 < c.waiting.length then c else if c.back = true ∧ 0 ≤ c.round then advC rds sts f (startC rds sts {c with round := c.round - 1})
    else if ¬ c.back = true ∧ c.round < rds.length then advC rds sts f (startC rds sts {c with round := c.round + 1}) else c
def advA (rds : List (List Chg)) (sts : List (List Int)) (c : Ctl) : Ctl := advC rds sts 40 c
def measC (R : Nat) (c : Ctl) : Int := if c.back = true then c.round + 1 else R - c.round
theorem CtlOK.down (h : CtlOK n rds.length c) (hb : c.back = true) (h0 : 0 ≤ c.round) : CtlOK n rds.length {c with round := c.round - 1} :=
  ⟨h.tg, h.kn, h.wt, by have := h.rd; show -1 ≤ c.round - 1 ∧ c.round - 1 ≤ _; omega, h.sq.1, fun e => (Bool.false_ne_true ((show c.back = false from e).symm.trans hb)).elim, fun e => by have := h.sq.2.2 e; show c.seq + (c.round - 1) ≤ _; omega⟩
theorem CtlOK.up (h : CtlOK n rds.length c) (hb : ¬ c.back = true) (h0 : c.round < rds.length) : CtlOK n rds.length {c with round := c.round + 1} :=
  ⟨h.tg, h.kn, h.wt, by have := h.rd; show -1 ≤ c.round + 1 ∧ c.round + 1 ≤ _; omega, h.sq.1, fun e => by have := h.sq.2.1 e; show c.seq ≤ c.round + 1 + 1 ∧ 0 ≤ c.round + 1; omega, fun e => absurd e hb⟩
theorem step_down (P : PlanOK n rds sts) (h : CtlOK n rds.length c) (hb : c.back = true) (h0 : 0 ≤ c.round) :
    CtlOK n rds.length (startC rds sts {c with round := c.round - 1}) ∧ measC rds.length (startC rds sts {c with round := c.round - 1}) = measC rds.length c - 1 ∧ (startC rds sts {c with round := c.round - 1}).sent.length ≤ c.sent.length + 1000 := by
  obtain ⟨h1, h2, h3, h4⟩ := startC_ok P (h.down hb h0) fun _ _ => ⟨fun e => (Bool.false_ne_true ((show c.back = false from e).symm.trans hb)).elim, fun e => by have := h.sq.2.2 e; show c.seq + (c.round - 1) ≤ _; omega⟩
  refine ⟨h1, ?_, h4⟩
  unfold measC
  rw [h2, h3, if_pos hb, if_pos hb]
  show c.round - 1 + 1 = c.round + 1 - 1; omega
theorem step_up (P : PlanOK n rds sts) (h : CtlOK n rds.length c) (hb : ¬ c.back = true) (h0 : c.round < rds.length) :
    CtlOK n rds.length (startC rds sts {c with round := c.round + 1}) ∧ measC rds.length (startC rds sts {c with round := c.round + 1}) = measC rds.length c - 1 ∧ (startC rds sts {c with round := c.round + 1}).sent.length ≤ c.sent.length + 1000 := by
  obtain ⟨h1, h2, h3, h4⟩ := startC_ok P (h.up hb h0) fun _ _ => ⟨fun e => by have := h.sq.2.1 e; show c.seq ≤ c.round + 1; omega, fun e => absurd e hb⟩
  refine ⟨h1, ?_, h4⟩
  unfold measC
  rw [h2, h3, if_neg hb, if_neg hb]
  show _ - (c.round + 1) = _ - c.round - 1; omega
theorem advC_ok (P : PlanOK n rds sts) : ∀ (f : Nat) {c : Ctl}, CtlOK n rds.length c → CtlOK n rds.length (advC rds sts f c) ∧ (advC rds sts f c).sent.length ≤ c.sent.length + 1000 * f ∧ (advC rds sts f c).back = c.back
  | 0, c, h => ⟨h, by rw [advC]; omega, rfl⟩
  | f + 1, c, h => by
    rw [advC]
    split
    · exact ⟨h, by omega, rfl⟩
    · split
      · rename_i hb
        obtain ⟨h1, _, h3⟩ := step_down P h hb.1 hb.2
        obtain ⟨g1, g2, g3⟩ := advC_ok P f h1
        have := (startC_ok P (h.down hb.1 hb.2) fun _ _ => ⟨fun e => (Bool.false_ne_true ((show c.back = false from e).symm.trans hb.1)).elim, fun e => by have := h.sq.2.2 e; show c.seq + (c.round - 1) ≤ _; omega⟩).2.2.1
        exact ⟨g1, by omega, g3.trans this⟩
      · split
        · rename_i hb
          obtain ⟨h1, _, h3⟩ := step_up P h hb.1 hb.2
          obtain ⟨g1, g2, g3⟩ := advC_ok P f h1
          have := (startC_ok P (h.up hb.1 hb.2) fun _ _ => ⟨fun e => by have := h.sq.2.1 e; show c.seq ≤ c.round + 1; omega, fun e => absurd e hb.1⟩).2.2.1
          exact ⟨g1, by omega, g3.trans this⟩
        · exact ⟨h, by omega, rfl⟩
theorem meas_pos (h : CtlOK n rds.length c) : 0 ≤ measC rds.length c := by
  unfold measC
  have h1 := h.rd
  split <;> omega
theorem meas_le (h : CtlOK n rds.length c) (hR : rds.length ≤ 16) : measC rds.length c ≤ 17 := by
  unfold measC
  have := h.rd
  split
  · omega
  · rename_i hb
    have := h.sq.2.1 (by simpa using hb)
    omega
end
theorem keep_rds {m m1 : Mach} (h : KeepM m m1) : rdsM m1 = rdsM m := by unfold rdsM; rw [h.1]
theorem keep_sts {m m1 : Mach} (h : KeepM m m1) : stsM m1 = stsM m := by unfold stsM; rw [h.2]
theorem KeepM.trans {m m1 m2 : Mach} (h : KeepM m m1) (k : KeepM m1 m2) : KeepM m m2 := ⟨k.1.trans h.1, k.2.trans h.2⟩
theorem machOK_of {m m1 : Mach} (h : MachOK m) (k : KeepM m m1) (c : CtlOK m.target.xs.length (rdsM m).length (absM m1)) : MachOK m1 := by
  have ht : m1.target.xs.length = m.target.xs.length := c.tg
  unfold MachOK
  rw [keep_rds k, keep_sts k, ht]
  exact ⟨h.1, c⟩
end Go.Proofs.Ytobggnpnochnnaa.V
namespace Go.Proofs.Ytobggnpnochnnaa.V
open Go.RowKit Go.Proofs.Ytobggnpnochnnaa
set_option linter.unusedVariables false
set_option linter.unusedSimpArgs false
set_option maxHeartbeats 2000000 in
set_option maxRecDepth 20000 in
theorem cAdvance (w : World) (F : Nat → Prop) (hF : Old F w) (m_b : Nat) (m : Mach) (M : MS [In (ow (machF m_b m))] w) (hD : ∀ k, In [In (ow (machF m_b m))] k → ¬ F k) (m_k : machK m) (m_K : (bnO (machF m_b m)).p F (In [In (ow (machF m_b m))]) w) (ok : MachOK m ∧ m.sent.xs.length ≤ 500000) :
 Calls Try.prog 117 #[pT m_b 0] w fun e w' => ∃ (m_1 : Mach), e = .returned (.tuple #[]) ∧ machK m_1 ∧ (bnO (machF m_b m_1)).p F (In [In (ow (machF m_b m_1))]) w' ∧ (KeepM m m_1 ∧ absM m_1 = advA (rdsM m) (stsM m) (absM m)) ∧ Tr [In (ow (machF m_b m))] w [In (ow (machF m_b m_1))] w' := by
 obtain ⟨hMo, hsent⟩ := ok
 refine go Try.func117 rfl 63 rfl [] [bnO (machF m_b m)] hF M trivial ⟨m_K, trivial⟩ ?_
 intro a S
 refine wp_block ?_
 refine lp2 (fun (f : Nat) (mj : Mach) => [(0, pT m_b 0)]) (fun (f : Nat) (mj : Mach) => [bnO (machF m_b mj)]) (fun (f : Nat) (mj : Mach) => machK mj ∧ (KeepM m mj ∧ advC (rdsM m) (stsM m) f (absM mj) = advA (rdsM m) (stsM m) (absM m) ∧ measC (rdsM m).length (absM mj) < f ∧ MachOK mj ∧ mj.sent.xs.length + 1000 * f ≤ 540000)) (fun (f : Nat) (mj : Mach) => f) S 40 m (subM rfl) rfl ?_ ?_
 ·refine ⟨m_k, ?_⟩
  exact ⟨⟨rfl, rfl⟩, rfl, by have := meas_le hMo.2 hMo.1.r1; show measC _ (absM m) < _; omega, hMo, by show m.sent.xs.length + _ ≤ _; omega⟩
 clear S; intro f mj a u S hR
 obtain ⟨hk_mj, hR⟩ := hR
 obtain ⟨hKm, hadv, hme, hMj, hsl⟩ := hR
 have hrl := rds_len mj
 have hP1 := hMj.1.r1
 have hC1 : -1 ≤ mj.round ∧ mj.round ≤ _ := hMj.2.rd
 have hkr := keep_rds hKm
 have hks := keep_sts hKm
 have hmp := meas_pos hMj.2
 rw [hkr] at hmp
 obtain ⟨fu, rfl⟩ : ∃ g, f = g + 1 := ⟨f - 1, by omega⟩
 rw [advC] at hadv
 refine wp_seq (rs0 ?_)
 refine sp S (tr (mv rfl)<|la (ov fun S=>x_nilck (S.e rfl))) ?_; clear S; intro a u S
 replace S := (show St _ _ _ _ _ _ [blO m_b [sV mj.rounds, sV mj.states, iI mj.round, bD (mj.back = true), iI mj.seq, sV mj.target, sV mj.known, sV mj.waiting, sV mj.sent] 166, rwO intE 3 0 mj.target.a mj.target.c mj.target.xs, rwO intE 3 0 mj.known.a mj.known.c mj.known.xs, rwO intE 3 0 mj.waiting.a mj.waiting.c mj.waiting.xs, rwO intE 3 0 mj.sent.a mj.sent.c mj.sent.xs, daO (slE (slE chgE)) mj.rounds, daO (slE (slE intE)) mj.states] _ _ from S.opn (ks := []))
 replace S := S.ar (wfF (slE (slE chgE)) mj.rounds) (S.da 5 rfl)
 replace S := S.ar (wfF (slE (slE intE)) mj.states) (S.da 6 rfl)
 replace S := S.pk [0, 1, 2, 3, 4] (os' := [blO m_b [sV mj.rounds, sV mj.states, iI mj.round, bD (mj.back = true), iI mj.seq, sV mj.target, sV mj.known, sV mj.waiting, sV mj.sent] 166, rwO intE 3 0 mj.target.a mj.target.c mj.target.xs, rwO intE 3 0 mj.known.a mj.known.c mj.known.xs, rwO intE 3 0 mj.waiting.a mj.waiting.c mj.waiting.xs, rwO intE 3 0 mj.sent.a mj.sent.c mj.sent.xs])
 have : mj.target.xs.length ≤ 9223372036854775807 := (S.row 1 rfl).len_le
 have : mj.known.xs.length ≤ 9223372036854775807 := (S.row 2 rfl).len_le
 have : mj.waiting.xs.length ≤ 9223372036854775807 := (S.row 3 rfl).len_le
 have : mj.sent.xs.length ≤ 9223372036854775807 := (S.row 4 rfl).len_le
 have : mj.rounds.xs.length ≤ 9223372036854775807 := ((S.u 0 rfl)).1.len
 have : mj.states.xs.length ≤ 9223372036854775807 := ((S.u 1 rfl)).1.len
 obtain ⟨_, _⟩ : inI64 mj.round := hk_mj.1
 obtain ⟨_, _⟩ : inI64 mj.seq := hk_mj.2
 refine ens S (tr (fldi 0 2 rfl uT166)<|tr (fldi (0 + 2) 5 rfl uT57)<|tr (ldk 0 sC22 rfl rfl rfl)<|tr (leni uT22 rfl)<|la (eqli rfl rfl)) ?_; clear S; intro a u S
 refine cd S rfl ?_ ?_
 ·intro hc0
  refine wp_skip (then_n (wp_block (wp_seq (wp_block ?_))))
  refine rs S (tr (mv rfl)<|tr (ov fun S=>x_nilck (S.e rfl))<|tr (fldi 0 2 rfl uT166)<|tr (fldi (0 + 2) 1 rfl uT57)<|tr (ldk 0 sC4 rfl rfl rfl)<|tr (mv rfl)<|tr (og 15 rfl gt fun S hg=>x_move (S.e rfl))<|tr (og 15 rfl gt fun S hg=>x_nilck (S.p rfl hg))<|tr (og 15 rfl gt fun S hg=>xf (0) 2 uT166 (S.p rfl hg))<|tr (og 15 rfl gt fun S hg=>xf (0 + 2) 0 uT57 (S.p rfl hg))<|tr (og 15 rfl gt fun S hg=>x_load sC3 (S.p rfl hg) ((S.k 0 rfl).cell (j := 2) rfl))<|tr (og 15 rfl gt fun S hg=>x_geq (S.p rfl hg) (S.e rfl))<|tr (andi rfl rfl rfl)<|la (av rfl)) ?_; clear S; intro a u S
  refine cd S rfl ?_ ?_
  ·intro hc1
   have hOK : MachOK {mj with round := mj.round - 1} := machOK_of hMj ⟨rfl, rfl⟩ (hMj.2.down hc1.1 hc1.2)
   refine rg S (tr (mv rfl)<|tr (ov fun S=>x_nilck (S.e rfl))<|tr (fldi 0 2 rfl uT166)<|tr (fldi (0 + 2) 0 rfl uT57)<|tr (ldk 0 sC3 rfl rfl rfl)<|tr (subi (mj.round - 1) rfl rfl (w_i64 (by omega)))<|tr (ov fun S=>x_nilck (S.e rfl))<|tr (fldi 0 2 rfl uT166)<|tr (fldi (0 + 2) 0 rfl uT57)<|la (stk 0 rfl rfl rfl)) ?_; clear S; intro a u S
   refine blk_n (then_n (r0 ?_))
   refine sp S (la (mv rfl)) ?_; clear S; intro a u S
   replace S := S.oda (E := slE (slE chgE)) (x := mj.rounds) (S.u 0 rfl)
   replace S := S.oda (E := slE (slE intE)) (x := mj.states) (S.u 1 rfl)
   have hk5 : machK (⟨mj.rounds, mj.states, (mj.round - 1), mj.back, mj.seq, (Sl.mk mj.target.a mj.target.c mj.target.xs), (Sl.mk mj.known.a mj.known.c mj.known.xs), (Sl.mk mj.waiting.a mj.waiting.c mj.waiting.xs), (Sl.mk mj.sent.a mj.sent.c mj.sent.xs)⟩ : Mach) := ⟨(show inI64 (mj.round - 1) from ⟨by omega, by omega⟩), hk_mj.2⟩
   replace S := (show St _ _ _ _ _ _ ([] ++ machF m_b (⟨mj.rounds, mj.states, (mj.round - 1), mj.back, mj.seq, (Sl.mk mj.target.a mj.target.c mj.target.xs), (Sl.mk mj.known.a mj.known.c mj.known.xs), (Sl.mk mj.waiting.a mj.waiting.c mj.waiting.xs), (Sl.mk mj.sent.a mj.sent.c mj.sent.xs)⟩ : Mach)) _ _ from S).cls
   replace S := (show St _ _ _ _ _ _ [bnO (machF m_b (⟨mj.rounds, mj.states, (mj.round - 1), mj.back, mj.seq, (Sl.mk mj.target.a mj.target.c mj.target.xs), (Sl.mk mj.known.a mj.known.c mj.known.xs), (Sl.mk mj.waiting.a mj.waiting.c mj.waiting.xs), (Sl.mk mj.sent.a mj.sent.c mj.sent.xs)⟩ : Mach))] _ _ from S)
   obtain ⟨y6, hy6⟩ : ∃ y : Mach, (⟨mj.rounds, mj.states, (mj.round - 1), mj.back, mj.seq, (Sl.mk mj.target.a mj.target.c mj.target.xs), (Sl.mk mj.known.a mj.known.c mj.known.xs), (Sl.mk mj.waiting.a mj.waiting.c mj.waiting.xs), (Sl.mk mj.sent.a mj.sent.c mj.sent.xs)⟩ : Mach) = y := ⟨_, rfl⟩; rw [hy6] at S hk5
   refine cl S (cStart _ _ (S.xx (ow [bnO (machF m_b y6)])) m_b y6 (S.mF (ks := []) (fs := [bnO (machF m_b y6)])) (S.nfF (ks := []) (fs := [bnO (machF m_b y6)]) hD) hk5 (S.dF (ks := []) (fs := [bnO (machF m_b y6)]) 0 rfl (mo_bn (mo_mach _ _))) (by subst hy6; exact (⟨by first | assumption | exact hOK, by first | omega | (dsimp only; omega) | simp⟩))) cB105 ?_
   rintro e u ⟨m_t62, rfl, hk_m_t62, hK_m_t62, hq_m_t62, T0⟩; refine ⟨_, rfl, fun a s => ?_⟩
   have S2 := S.kF (ks := []) (fs := [bnO (machF m_b y6)]) [bnO (machF m_b m_t62)] s T0 ⟨hK_m_t62, trivial⟩ ⟨(mo_bn (mo_mach _ _)), trivial⟩
   replace S2 := (show St _ _ _ _ _ _ [bnO (machF m_b m_t62)] _ _ from S2)
   clear S; have S := S2; clear S2 s T0 hK_m_t62
   subst hy6
   refine nn (blk_n (then_n ?_))
   refine ⟨fu, m_t62, S.re (subM rfl) rfl rfl, ?_, ?_⟩
   ·refine ⟨hk_m_t62, ?_⟩
    have hq := hq_m_t62
    have hX : CtlOK mj.target.xs.length (rdsM mj).length (absM m_t62) ∧ measC (rdsM mj).length (absM m_t62) = measC (rdsM mj).length (absM mj) - 1 ∧ m_t62.sent.xs.length ≤ mj.sent.xs.length + 1000 := by
     show CtlOK _ _ _ ∧ _ ∧ (absM m_t62).sent.length ≤ _
     rw [hq.2]
     first
     | exact step_down hMj.1 hMj.2 hc1.1 hc1.2
     | exact step_up hMj.1 hMj.2 hc3.1 (by rw [rds_len]; exact hc3.2)
    have hK2 : KeepM mj m_t62 := ⟨hq.1.1, hq.1.2⟩
    refine ⟨hKm.trans hK2, ?_, ?_, machOK_of hMj hK2 hX.1, ?_⟩
    ·show advC _ _ _ (absM m_t62) = _
     rw [hq.2, ← hadv, if_neg (by show ¬ 0 < mj.waiting.xs.length; omega)]
     show advC _ _ _ (startC (rdsM mj) (stsM mj) _) = _
     rw [hkr, hks]
     first
     | (rw [if_pos ⟨hc1.1, hc1.2⟩]; rfl)
     | (rw [if_neg (show ¬ ((absM mj).back = true ∧ 0 ≤ (absM mj).round) from hc2), if_pos ⟨hc3.1, by rw [← hkr, rds_len]; exact hc3.2⟩]; rfl)
    ·have := hX.2.1
     rw [hkr] at this
     show measC _ (absM m_t62) < _
     omega
    have := hX.2.2
    show m_t62.sent.xs.length + 1000 * fu ≤ _
    omega
   omega
  intro hc2
  refine wp_seq ?_
  refine dr (P := Try.prog) S 20 [] [(33, .is _), (34, .is _), (35, .is _), (36, .is _), (37, .is _), (38, .is _), (39, .is _), (40, .is _), (41, .is _), (42, .is _), (43, .is _), (44, .is _), (45, .is _), (46, .is _), (47, .is _), (48, .is _), (49, .is _), (50, .is _), (51, .is _), (32, .is _)] [[], [33], [34], [35], [36], [37], [38], [39], [39, 40], [39, 41], [39, 42], [39, 43], [39], [39, 45], [39, 46], [39, 47], [39, 48], [39, 44, 49], [39, 50], [51]] [32] _ ⟨qd (mv rfl), qd (ov fun S=>x_nilck (S.e rfl)), qd (fldi 0 2 rfl uT166), qd (fldi (0 + 2) 1 rfl uT57), qd (ldk 0 sC4 rfl rfl rfl), qd (noti rfl), qd (mv rfl), qd (og 39 rfl gt fun S hg=>x_move (S.e rfl)), qd (og 39 rfl gt fun S hg=>x_nilck (S.p rfl hg)), qd (og 39 rfl gt fun S hg=>xf (0) 2 uT166 (S.p rfl hg)), qd (og 39 rfl gt fun S hg=>xf (0 + 2) 0 uT57 (S.p rfl hg)), qd (og 39 rfl gt fun S hg=>x_load sC3 (S.p rfl hg) ((S.k 0 rfl).cell (j := 2) rfl)), qd (og 39 rfl gt fun S hg=>x_move (S.e rfl)), qd (og 39 rfl gt fun S hg=>x_nilck (S.p rfl hg)), qd (og 39 rfl gt fun S hg=>xf (0) 0 uT166 (S.p rfl hg)), qd (og 39 rfl gt fun S hg=>x_load sC45 (S.p rfl hg) ((S.k 0 rfl).cell (j := 0) rfl)), qd (og 39 rfl gt fun S hg=>x_len uT45 (S.p rfl hg)), qd (og 39 rfl gt fun S hg=>x_lss (S.p rfl hg) (S.p rfl hg)), qd (andi rfl rfl rfl), qd (av rfl), trivial⟩ ?_
  clear S; intro a u S G hE
  refine ent ?_
  refine cd S rfl ?_ ?_
  ·intro hc3
   have hOK : MachOK {mj with round := mj.round + 1} := machOK_of hMj ⟨rfl, rfl⟩ (hMj.2.up hc3.1 (by rw [rds_len]; exact hc3.2))
   refine rg S (tr (mv rfl)<|tr (ov fun S=>x_nilck (S.e rfl))<|tr (fldi 0 2 rfl uT166)<|tr (fldi (0 + 2) 0 rfl uT57)<|tr (ldk 0 sC3 rfl rfl rfl)<|tr (addi (mj.round + 1) rfl rfl (w_i64 (by omega)))<|tr (ov fun S=>x_nilck (S.e rfl))<|tr (fldi 0 2 rfl uT166)<|tr (fldi (0 + 2) 0 rfl uT57)<|la (stk 0 rfl rfl rfl)) ?_; clear S; intro a u S
   refine blk_n (then_n (r0 ?_))
   refine sp S (la (mv rfl)) ?_; clear S; intro a u S
   replace S := S.oda (E := slE (slE chgE)) (x := mj.rounds) (S.u 0 rfl)
   replace S := S.oda (E := slE (slE intE)) (x := mj.states) (S.u 1 rfl)
   have hk9 : machK (⟨mj.rounds, mj.states, (mj.round + 1), mj.back, mj.seq, (Sl.mk mj.target.a mj.target.c mj.target.xs), (Sl.mk mj.known.a mj.known.c mj.known.xs), (Sl.mk mj.waiting.a mj.waiting.c mj.waiting.xs), (Sl.mk mj.sent.a mj.sent.c mj.sent.xs)⟩ : Mach) := ⟨(show inI64 (mj.round + 1) from ⟨by omega, by omega⟩), hk_mj.2⟩
   replace S := (show St _ _ _ _ _ _ ([] ++ machF m_b (⟨mj.rounds, mj.states, (mj.round + 1), mj.back, mj.seq, (Sl.mk mj.target.a mj.target.c mj.target.xs), (Sl.mk mj.known.a mj.known.c mj.known.xs), (Sl.mk mj.waiting.a mj.waiting.c mj.waiting.xs), (Sl.mk mj.sent.a mj.sent.c mj.sent.xs)⟩ : Mach)) _ _ from S).cls
   replace S := (show St _ _ _ _ _ _ [bnO (machF m_b (⟨mj.rounds, mj.states, (mj.round + 1), mj.back, mj.seq, (Sl.mk mj.target.a mj.target.c mj.target.xs), (Sl.mk mj.known.a mj.known.c mj.known.xs), (Sl.mk mj.waiting.a mj.waiting.c mj.waiting.xs), (Sl.mk mj.sent.a mj.sent.c mj.sent.xs)⟩ : Mach))] _ _ from S)
   obtain ⟨y10, hy10⟩ : ∃ y : Mach, (⟨mj.rounds, mj.states, (mj.round + 1), mj.back, mj.seq, (Sl.mk mj.target.a mj.target.c mj.target.xs), (Sl.mk mj.known.a mj.known.c mj.known.xs), (Sl.mk mj.waiting.a mj.waiting.c mj.waiting.xs), (Sl.mk mj.sent.a mj.sent.c mj.sent.xs)⟩ : Mach) = y := ⟨_, rfl⟩; rw [hy10] at S hk9
   refine cl S (cStart _ _ (S.xx (ow [bnO (machF m_b y10)])) m_b y10 (S.mF (ks := []) (fs := [bnO (machF m_b y10)])) (S.nfF (ks := []) (fs := [bnO (machF m_b y10)]) hD) hk9 (S.dF (ks := []) (fs := [bnO (machF m_b y10)]) 0 rfl (mo_bn (mo_mach _ _))) (by subst hy10; exact (⟨by first | assumption | exact hOK, by first | omega | (dsimp only; omega) | simp⟩))) cB105 ?_
   rintro e u ⟨m_t62, rfl, hk_m_t62, hK_m_t62, hq_m_t62, T0⟩; refine ⟨_, rfl, fun a s => ?_⟩
   have S2 := S.kF (ks := []) (fs := [bnO (machF m_b y10)]) [bnO (machF m_b m_t62)] s T0 ⟨hK_m_t62, trivial⟩ ⟨(mo_bn (mo_mach _ _)), trivial⟩
   replace S2 := (show St _ _ _ _ _ _ [bnO (machF m_b m_t62)] _ _ from S2)
   clear S; have S := S2; clear S2 s T0 hK_m_t62
   subst hy10
   refine nn (blk_n (then_n ?_))
   refine ⟨fu, m_t62, S.re (subM rfl) rfl rfl, ?_, ?_⟩
   ·refine ⟨hk_m_t62, ?_⟩
    have hq := hq_m_t62
    have hX : CtlOK mj.target.xs.length (rdsM mj).length (absM m_t62) ∧ measC (rdsM mj).length (absM m_t62) = measC (rdsM mj).length (absM mj) - 1 ∧ m_t62.sent.xs.length ≤ mj.sent.xs.length + 1000 := by
     show CtlOK _ _ _ ∧ _ ∧ (absM m_t62).sent.length ≤ _
     rw [hq.2]
     first
     | exact step_down hMj.1 hMj.2 hc1.1 hc1.2
     | exact step_up hMj.1 hMj.2 hc3.1 (by rw [rds_len]; exact hc3.2)
    have hK2 : KeepM mj m_t62 := ⟨hq.1.1, hq.1.2⟩
    refine ⟨hKm.trans hK2, ?_, ?_, machOK_of hMj hK2 hX.1, ?_⟩
    ·show advC _ _ _ (absM m_t62) = _
     rw [hq.2, ← hadv, if_neg (by show ¬ 0 < mj.waiting.xs.length; omega)]
     show advC _ _ _ (startC (rdsM mj) (stsM mj) _) = _
     rw [hkr, hks]
     first
     | (rw [if_pos ⟨hc1.1, hc1.2⟩]; rfl)
     | (rw [if_neg (show ¬ ((absM mj).back = true ∧ 0 ≤ (absM mj).round) from hc2), if_pos ⟨hc3.1, by rw [← hkr, rds_len]; exact hc3.2⟩]; rfl)
    ·have := hX.2.1
     rw [hkr] at this
     show measC _ (absM m_t62) < _
     omega
    have := hX.2.2
    show m_t62.sent.xs.length + 1000 * fu ≤ _
    omega
   omega
  intro hc4
  refine wp_ret (blk_r (then_r (blk_r (then_r (blk_r ?_)))))
  replace S := S.oda (E := slE (slE chgE)) (x := mj.rounds) (S.u 0 rfl)
  replace S := S.oda (E := slE (slE intE)) (x := mj.states) (S.u 1 rfl)
  have hk11 : machK (⟨mj.rounds, mj.states, mj.round, mj.back, mj.seq, (Sl.mk mj.target.a mj.target.c mj.target.xs), (Sl.mk mj.known.a mj.known.c mj.known.xs), (Sl.mk mj.waiting.a mj.waiting.c mj.waiting.xs), (Sl.mk mj.sent.a mj.sent.c mj.sent.xs)⟩ : Mach) := ⟨hk_mj.1, hk_mj.2⟩
  replace S := (show St _ _ _ _ _ _ ([] ++ machF m_b (⟨mj.rounds, mj.states, mj.round, mj.back, mj.seq, (Sl.mk mj.target.a mj.target.c mj.target.xs), (Sl.mk mj.known.a mj.known.c mj.known.xs), (Sl.mk mj.waiting.a mj.waiting.c mj.waiting.xs), (Sl.mk mj.sent.a mj.sent.c mj.sent.xs)⟩ : Mach)) _ _ from S).cls
  replace S := (show St _ _ _ _ _ _ [bnO (machF m_b (⟨mj.rounds, mj.states, mj.round, mj.back, mj.seq, (Sl.mk mj.target.a mj.target.c mj.target.xs), (Sl.mk mj.known.a mj.known.c mj.known.xs), (Sl.mk mj.waiting.a mj.waiting.c mj.waiting.xs), (Sl.mk mj.sent.a mj.sent.c mj.sent.xs)⟩ : Mach))] _ _ from S)
  refine ret0 rfl S.s  ?_
  refine ⟨(⟨mj.rounds, mj.states, mj.round, mj.back, mj.seq, (Sl.mk mj.target.a mj.target.c mj.target.xs), (Sl.mk mj.known.a mj.known.c mj.known.xs), (Sl.mk mj.waiting.a mj.waiting.c mj.waiting.xs), (Sl.mk mj.sent.a mj.sent.c mj.sent.xs)⟩ : Mach), rfl, hk11, (S.m.o _ (nth_mem (i := 0) rfl)), ?_, S.m.c⟩
  refine ⟨hKm, ?_⟩
  rw [← hadv, if_neg (by show ¬ 0 < mj.waiting.xs.length; omega), if_neg (show ¬ ((absM mj).back = true ∧ 0 ≤ (absM mj).round) from hc2), if_neg (by rw [← hkr, rds_len]; exact hc4)] <;> rfl
 intro hc5
 refine wp_exit (then_e (then_e (blk_e ?_)))
 replace S := S.oda (E := slE (slE chgE)) (x := mj.rounds) (S.u 0 rfl)
 replace S := S.oda (E := slE (slE intE)) (x := mj.states) (S.u 1 rfl)
 have hk12 : machK (⟨mj.rounds, mj.states, mj.round, mj.back, mj.seq, (Sl.mk mj.target.a mj.target.c mj.target.xs), (Sl.mk mj.known.a mj.known.c mj.known.xs), (Sl.mk mj.waiting.a mj.waiting.c mj.waiting.xs), (Sl.mk mj.sent.a mj.sent.c mj.sent.xs)⟩ : Mach) := ⟨hk_mj.1, hk_mj.2⟩
 replace S := (show St _ _ _ _ _ _ ([] ++ machF m_b (⟨mj.rounds, mj.states, mj.round, mj.back, mj.seq, (Sl.mk mj.target.a mj.target.c mj.target.xs), (Sl.mk mj.known.a mj.known.c mj.known.xs), (Sl.mk mj.waiting.a mj.waiting.c mj.waiting.xs), (Sl.mk mj.sent.a mj.sent.c mj.sent.xs)⟩ : Mach)) _ _ from S).cls
 replace S := (show St _ _ _ _ _ _ [bnO (machF m_b (⟨mj.rounds, mj.states, mj.round, mj.back, mj.seq, (Sl.mk mj.target.a mj.target.c mj.target.xs), (Sl.mk mj.known.a mj.known.c mj.known.xs), (Sl.mk mj.waiting.a mj.waiting.c mj.waiting.xs), (Sl.mk mj.sent.a mj.sent.c mj.sent.xs)⟩ : Mach))] _ _ from S)
 refine end0 rfl S.s ?_
 refine ⟨(⟨mj.rounds, mj.states, mj.round, mj.back, mj.seq, (Sl.mk mj.target.a mj.target.c mj.target.xs), (Sl.mk mj.known.a mj.known.c mj.known.xs), (Sl.mk mj.waiting.a mj.waiting.c mj.waiting.xs), (Sl.mk mj.sent.a mj.sent.c mj.sent.xs)⟩ : Mach), rfl, hk12, (S.m.o _ (nth_mem (i := 0) rfl)), ?_, S.m.c⟩
 refine ⟨hKm, ?_⟩
 rw [← hadv, if_pos (by show 0 < mj.waiting.xs.length; omega)] <;> rfl
end Go.Proofs.Ytobggnpnochnnaa.V
namespace Go.Proofs.Ytobggnpnochnnaa.V
open Go.RowKit Go.Proofs.Ytobggnpnochnnaa
set_option linter.unusedVariables false
set_option linter.unusedSimpArgs false
theorem sDel (w : World) (F : Nat → Prop) (hF : Old F w) (x_a : Option Addr) (M : MS [abk x_a] w) (hD : ∀ k, In [abk x_a] k → ¬ F k) (x_c : Nat) (x : List Int) (x_R : Row intE 3 0 F [abk x_a] w x_a x_c x) (d : Int) (d_b : Nat) (d_K : Blk w.heap d_b [.int .i64 d] 3) (d_n : ¬ In [abk x_a] d_b) :
 Calls Try.prog 124 #[.slice x_a x.length x_c, .func (.func 125) #[] #[pT d_b 0]] w fun e w' => ∃ (ra : Option Addr) (rc : Nat), e = .returned (.slice ra ((x.filter fun y => !(y == d)).length) rc) ∧ Row intE 3 0 F [abk ra] w' ra rc (x.filter fun y => !(y == d)) ∧ Tr [abk x_a] w [abk ra] w' := del_row M x_R d_b d d_K d_n
set_option maxHeartbeats 2000000 in
set_option maxRecDepth 20000 in
theorem cRemove (w : World) (F : Nat → Prop) (hF : Old F w) (m_b : Nat) (m : Mach) (M : MS [In (ow (machF m_b m))] w) (hD : ∀ k, In [In (ow (machF m_b m))] k → ¬ F k) (m_k : machK m) (m_K : (bnO (machF m_b m)).p F (In [In (ow (machF m_b m))]) w) (d : Int) (d_h : inI64 d) (ok : MachOK m ∧ m.sent.xs.length ≤ 400000) :
 Calls Try.prog 116 #[pT m_b 0, iI d] w fun e w' => ∃ (m_1 : Mach), e = .returned (.tuple #[]) ∧ machK m_1 ∧ (bnO (machF m_b m_1)).p F (In [In (ow (machF m_b m_1))]) w' ∧ (KeepM m m_1 ∧ absM m_1 = advA (rdsM m) (stsM m) {absM m with waiting := m.waiting.xs.filter fun y => !(y == d)}) ∧ Tr [In (ow (machF m_b m))] w [In (ow (machF m_b m_1))] w' := by
 obtain ⟨d_hl, d_hu⟩ : inI64 d := id d_h
 obtain ⟨⟨PO, CO⟩, hsent⟩ := ok
 have hRl := rds_len m
 have hSl := sts_len m
 have hP1 := PO.r1
 have hP2 := PO.s1
 have hPn := PO.n1
 have hC1 : -1 ≤ m.round ∧ m.round ≤ _ := CO.rd
 have hsq : 0 ≤ m.seq ∧ m.seq ≤ 40 := CO.sqb hP1
 have hkn : m.known.xs.length = _ := CO.kn
 have hwt : Asc _ m.waiting.xs := CO.wt
 have hwl := hwt.len
 refine go Try.func116 rfl 17 rfl [] [bnO (machF m_b m)] hF M trivial ⟨m_K, trivial⟩ ?_
 intro a S
 refine rs0 ?_
 refine nbp S (x_box _ (S.e rfl) rfl) ?_; clear S; intro a u b3 S
 refine ent (rs0 ?_)
 refine sp S (tr (mv rfl)<|tr (mv rfl)<|la (ov fun S=>x_nilck (S.e rfl))) ?_; clear S; intro a u S
 replace S := S.pk [1, 0] (os' := [blO b3 [iI d] 3, bnO (machF m_b m)])
 replace S := (show St _ _ _ _ _ _ [blO b3 [iI d] 3, blO m_b [sV m.rounds, sV m.states, iI m.round, bD (m.back = true), iI m.seq, sV m.target, sV m.known, sV m.waiting, sV m.sent] 166, rwO intE 3 0 m.target.a m.target.c m.target.xs, rwO intE 3 0 m.known.a m.known.c m.known.xs, rwO intE 3 0 m.waiting.a m.waiting.c m.waiting.xs, rwO intE 3 0 m.sent.a m.sent.c m.sent.xs, daO (slE (slE chgE)) m.rounds, daO (slE (slE intE)) m.states] _ _ from S.opn (ks := [blO b3 [iI d] 3]))
 replace S := S.ar (wfF (slE (slE chgE)) m.rounds) (S.da 6 rfl)
 replace S := S.ar (wfF (slE (slE intE)) m.states) (S.da 7 rfl)
 replace S := S.pk [0, 1, 2, 3, 4, 5] (os' := [blO b3 [iI d] 3, blO m_b [sV m.rounds, sV m.states, iI m.round, bD (m.back = true), iI m.seq, sV m.target, sV m.known, sV m.waiting, sV m.sent] 166, rwO intE 3 0 m.target.a m.target.c m.target.xs, rwO intE 3 0 m.known.a m.known.c m.known.xs, rwO intE 3 0 m.waiting.a m.waiting.c m.waiting.xs, rwO intE 3 0 m.sent.a m.sent.c m.sent.xs])
 have : m.target.xs.length ≤ 9223372036854775807 := (S.row 2 rfl).len_le
 have : m.known.xs.length ≤ 9223372036854775807 := (S.row 3 rfl).len_le
 have : m.waiting.xs.length ≤ 9223372036854775807 := (S.row 4 rfl).len_le
 have : m.sent.xs.length ≤ 9223372036854775807 := (S.row 5 rfl).len_le
 have : m.rounds.xs.length ≤ 9223372036854775807 := ((S.u 0 rfl)).1.len
 have : m.states.xs.length ≤ 9223372036854775807 := ((S.u 1 rfl)).1.len
 obtain ⟨_, _⟩ : inI64 m.round := m_k.1
 obtain ⟨_, _⟩ : inI64 m.seq := m_k.2
 refine sp S (tr (fldi 0 2 rfl uT166)<|tr (fldi (0 + 2) 5 rfl uT57)<|tr (ldk 1 sC22 rfl rfl rfl)<|la (ov fun S=>x_mkfn (cs := #[pT b3 0]) (by simp only [List.map_toArray, List.map_cons, List.map_nil, S.e (x := .tmp 3) (v := pT b3 0) rfl]))) ?_; clear S; intro a u S
 replace S := S.pk [0, 1, 2, 3, 5, 4] (os' := [blO b3 [iI d] 3, blO m_b [sV m.rounds, sV m.states, iI m.round, bD (m.back = true), iI m.seq, sV m.target, sV m.known, sV m.waiting, sV m.sent] 166, rwO intE 3 0 m.target.a m.target.c m.target.xs, rwO intE 3 0 m.known.a m.known.c m.known.xs, rwO intE 3 0 m.sent.a m.sent.c m.sent.xs, rwO intE 3 0 m.waiting.a m.waiting.c m.waiting.xs])
 refine cl S (sDel _ _ (S.xx (ow [rwO intE 3 0 m.waiting.a m.waiting.c m.waiting.xs])) m.waiting.a (S.mF (ks := [blO b3 [iI d] 3, blO m_b [sV m.rounds, sV m.states, iI m.round, bD (m.back = true), iI m.seq, sV m.target, sV m.known, sV m.waiting, sV m.sent] 166, rwO intE 3 0 m.target.a m.target.c m.target.xs, rwO intE 3 0 m.known.a m.known.c m.known.xs, rwO intE 3 0 m.sent.a m.sent.c m.sent.xs]) (fs := [rwO intE 3 0 m.waiting.a m.waiting.c m.waiting.xs])) (S.nfF (ks := [blO b3 [iI d] 3, blO m_b [sV m.rounds, sV m.states, iI m.round, bD (m.back = true), iI m.seq, sV m.target, sV m.known, sV m.waiting, sV m.sent] 166, rwO intE 3 0 m.target.a m.target.c m.target.xs, rwO intE 3 0 m.known.a m.known.c m.known.xs, rwO intE 3 0 m.sent.a m.sent.c m.sent.xs]) (fs := [rwO intE 3 0 m.waiting.a m.waiting.c m.waiting.xs]) hD) m.waiting.c m.waiting.xs ⟨(S.dF (ks := [blO b3 [iI d] 3, blO m_b [sV m.rounds, sV m.states, iI m.round, bD (m.back = true), iI m.seq, sV m.target, sV m.known, sV m.waiting, sV m.sent] 166, rwO intE 3 0 m.target.a m.target.c m.target.xs, rwO intE 3 0 m.known.a m.known.c m.known.xs, rwO intE 3 0 m.sent.a m.sent.c m.sent.xs]) (fs := [rwO intE 3 0 m.waiting.a m.waiting.c m.waiting.xs]) 0 rfl mo_rw).1, (S.dF (ks := [blO b3 [iI d] 3, blO m_b [sV m.rounds, sV m.states, iI m.round, bD (m.back = true), iI m.seq, sV m.target, sV m.known, sV m.waiting, sV m.sent] 166, rwO intE 3 0 m.target.a m.target.c m.target.xs, rwO intE 3 0 m.known.a m.known.c m.known.xs, rwO intE 3 0 m.sent.a m.sent.c m.sent.xs]) (fs := [rwO intE 3 0 m.waiting.a m.waiting.c m.waiting.xs]) 0 rfl mo_rw).2⟩ d b3 (S.k 0 rfl) (S.m.sep (i := 0) rfl [5] rfl rfl)) cB124 ?_
 rintro e u ⟨ra_t11, rc_t11, rfl, R_t11, T0⟩; refine ⟨_, rfl, fun a s => ?_⟩
 have S2 := S.kF (ks := [blO b3 [iI d] 3, blO m_b [sV m.rounds, sV m.states, iI m.round, bD (m.back = true), iI m.seq, sV m.target, sV m.known, sV m.waiting, sV m.sent] 166, rwO intE 3 0 m.target.a m.target.c m.target.xs, rwO intE 3 0 m.known.a m.known.c m.known.xs, rwO intE 3 0 m.sent.a m.sent.c m.sent.xs]) (fs := [rwO intE 3 0 m.waiting.a m.waiting.c m.waiting.xs]) [rwO intE 3 0 ra_t11 rc_t11 (m.waiting.xs.filter fun y => !(y == d))] s T0 ⟨⟨R_t11.b0.own, R_t11.wf⟩, trivial⟩ ⟨mo_rw, trivial⟩
 replace S2 := (show St _ _ _ _ _ _ [blO b3 [iI d] 3, blO m_b [sV m.rounds, sV m.states, iI m.round, bD (m.back = true), iI m.seq, sV m.target, sV m.known, sV m.waiting, sV m.sent] 166, rwO intE 3 0 m.target.a m.target.c m.target.xs, rwO intE 3 0 m.known.a m.known.c m.known.xs, rwO intE 3 0 m.sent.a m.sent.c m.sent.xs, rwO intE 3 0 ra_t11 rc_t11 (m.waiting.xs.filter fun y => !(y == d))] _ _ from S2)
 clear S; have S := S2; clear S2 s T0 R_t11
 have hOK : MachOK {m with waiting := Sl.mk ra_t11 rc_t11 (m.waiting.xs.filter fun y => !(y == d))} := machOK_of ⟨PO, CO⟩ ⟨rfl, rfl⟩ ⟨CO.tg, CO.kn, Asc.filt hwt _, CO.rd, CO.sq⟩
 refine ens S (tr (ov fun S=>x_nilck (S.e rfl))<|tr (fldi 0 2 rfl uT166)<|tr (fldi (0 + 2) 5 rfl uT57)<|la (stk 1 rfl rfl rfl)) ?_; clear S; intro a u S
 refine r0 ?_
 refine sp S (la (mv rfl)) ?_; clear S; intro a u S
 replace S := S.pk [0, 1, 2, 3, 5, 4] (os' := [blO b3 [iI d] 3, blO m_b [sV m.rounds, sV m.states, iI m.round, bD (m.back = true), iI m.seq, sV m.target, sV m.known, .slice ra_t11 ((m.waiting.xs.filter fun y => !(y == d)).length) rc_t11, sV m.sent] 166, rwO intE 3 0 m.target.a m.target.c m.target.xs, rwO intE 3 0 m.known.a m.known.c m.known.xs, rwO intE 3 0 ra_t11 rc_t11 (m.waiting.xs.filter fun y => !(y == d)), rwO intE 3 0 m.sent.a m.sent.c m.sent.xs])
 replace S := S.oda (E := slE (slE chgE)) (x := m.rounds) (S.u 0 rfl)
 replace S := S.oda (E := slE (slE intE)) (x := m.states) (S.u 1 rfl)
 have hk4 : machK (⟨m.rounds, m.states, m.round, m.back, m.seq, (Sl.mk m.target.a m.target.c m.target.xs), (Sl.mk m.known.a m.known.c m.known.xs), (Sl.mk ra_t11 rc_t11 (m.waiting.xs.filter fun y => !(y == d))), (Sl.mk m.sent.a m.sent.c m.sent.xs)⟩ : Mach) := ⟨m_k.1, m_k.2⟩
 replace S := (show St _ _ _ _ _ _ ([blO b3 [iI d] 3] ++ machF m_b (⟨m.rounds, m.states, m.round, m.back, m.seq, (Sl.mk m.target.a m.target.c m.target.xs), (Sl.mk m.known.a m.known.c m.known.xs), (Sl.mk ra_t11 rc_t11 (m.waiting.xs.filter fun y => !(y == d))), (Sl.mk m.sent.a m.sent.c m.sent.xs)⟩ : Mach)) _ _ from S).cls
 replace S := (show St _ _ _ _ _ _ [blO b3 [iI d] 3, bnO (machF m_b (⟨m.rounds, m.states, m.round, m.back, m.seq, (Sl.mk m.target.a m.target.c m.target.xs), (Sl.mk m.known.a m.known.c m.known.xs), (Sl.mk ra_t11 rc_t11 (m.waiting.xs.filter fun y => !(y == d))), (Sl.mk m.sent.a m.sent.c m.sent.xs)⟩ : Mach))] _ _ from S)
 obtain ⟨y5, hy5⟩ : ∃ y : Mach, (⟨m.rounds, m.states, m.round, m.back, m.seq, (Sl.mk m.target.a m.target.c m.target.xs), (Sl.mk m.known.a m.known.c m.known.xs), (Sl.mk ra_t11 rc_t11 (m.waiting.xs.filter fun y => !(y == d))), (Sl.mk m.sent.a m.sent.c m.sent.xs)⟩ : Mach) = y := ⟨_, rfl⟩; rw [hy5] at S hk4
 refine cl S (cAdvance _ _ (S.xx (ow [bnO (machF m_b y5)])) m_b y5 (S.mF (ks := [blO b3 [iI d] 3]) (fs := [bnO (machF m_b y5)])) (S.nfF (ks := [blO b3 [iI d] 3]) (fs := [bnO (machF m_b y5)]) hD) hk4 (S.dF (ks := [blO b3 [iI d] 3]) (fs := [bnO (machF m_b y5)]) 0 rfl (mo_bn (mo_mach _ _))) (by subst hy5; exact (⟨by first | assumption | exact hOK, by first | omega | (dsimp only; omega)⟩))) cB117 ?_
 rintro e u ⟨m_t16, rfl, hk_m_t16, hK_m_t16, hq_m_t16, T0⟩; refine ⟨_, rfl, fun a s => ?_⟩
 have S2 := S.kF (ks := [blO b3 [iI d] 3]) (fs := [bnO (machF m_b y5)]) [bnO (machF m_b m_t16)] s T0 ⟨hK_m_t16, trivial⟩ ⟨(mo_bn (mo_mach _ _)), trivial⟩
 replace S2 := (show St _ _ _ _ _ _ [blO b3 [iI d] 3, bnO (machF m_b m_t16)] _ _ from S2)
 clear S; have S := S2; clear S2 s T0 hK_m_t16
 subst hy5
 refine nn ?_
 refine end0 rfl S.s ?_
 replace S := S.pk [1] (os' := [bnO (machF m_b m_t16)])
 refine ⟨m_t16, rfl, hk_m_t16, (S.m.o _ (nth_mem (i := 0) rfl)), ?_, S.m.c⟩
 first | assumption | trivial | rfl
end Go.Proofs.Ytobggnpnochnnaa.V
set_option linter.unusedVariables false
set_option linter.unusedSimpArgs false
namespace Go.Proofs.Ytobggnpnochnnaa.V
open Go.RowKit
def rmC (rds : List (List Chg)) (sts : List (List Int)) (c : Ctl) (d : Int) : Ctl := advA rds sts {c with waiting := c.waiting.filter fun y => !(y == d)}
def ackC (rds : List (List Chg)) (sts : List (List Int)) (c : Ctl) (d i s : Int) : Ctl := if i = c.known.getD d.toNat 0 ∧ s = c.seq then rmC rds sts c d else c
def helloC (c : Ctl) (d i : Int) : Ctl := if c.known.getD d.toNat 0 < i then {c with known := c.known.set d.toNat i, waiting := insW c.waiting d, sent := c.sent ++ [d]} else c
def abortC (rds : List (List Chg)) (sts : List (List Int)) (c : Ctl) : Ctl := if c.back = true then c else advA rds sts (startC rds sts {c with back := true})
section
variable {n : Nat} {rds : List (List Chg)} {sts : List (List Int)} {c : Ctl}
theorem CtlOK.bk (h : CtlOK n rds.length c) (hb : ¬ c.back = true) : CtlOK n rds.length {c with back := true} :=
  ⟨h.tg, h.kn, h.wt, h.rd, h.sq.1, (fun e => by cases e), fun _ => by have h1 := h.sq.2.1 (by simpa using hb); have h2 := h.rd; show c.seq + c.round ≤ _; omega⟩
theorem abort_ok (P : PlanOK n rds sts) (h : CtlOK n rds.length c) (hb : ¬ c.back = true) : CtlOK n rds.length (startC rds sts {c with back := true}) ∧ (startC rds sts {c with back := true}).sent.length ≤ c.sent.length + 1000 := by
  obtain ⟨h1, _, _, h4⟩ := startC_ok P (h.bk hb) fun h0 h1 => ⟨(fun e => by cases e), fun _ => by
    have h2 := h.sq.2.1 (by simpa using hb)
    have h3 : c.round < rds.length := h1
    show c.seq + c.round ≤ _; omega⟩
  exact ⟨h1, h4⟩
end
end Go.Proofs.Ytobggnpnochnnaa.V
namespace Go.Proofs.Ytobggnpnochnnaa.V
open Go.RowKit Go.Proofs.Ytobggnpnochnnaa
set_option linter.unusedVariables false
set_option linter.unusedSimpArgs false
set_option maxHeartbeats 2000000 in
set_option maxRecDepth 20000 in
theorem cSkip (w : World) (F : Nat → Prop) (hF : Old F w) (m_b : Nat) (m : Mach) (M : MS [In (ow (machF m_b m))] w) (hD : ∀ k, In [In (ow (machF m_b m))] k → ¬ F k) (m_k : machK m) (m_K : (bnO (machF m_b m)).p F (In [In (ow (machF m_b m))]) w) (d : Int) (d_h : inI64 d) (ok : MachOK m ∧ m.sent.xs.length ≤ 300000) :
 Calls Try.prog 86 #[pT m_b 0, iI d] w fun e w' => ∃ (m_1 : Mach), e = .returned (.tuple #[]) ∧ machK m_1 ∧ (bnO (machF m_b m_1)).p F (In [In (ow (machF m_b m_1))]) w' ∧ (KeepM m m_1 ∧ absM m_1 = rmC (rdsM m) (stsM m) (absM m) d) ∧ Tr [In (ow (machF m_b m))] w [In (ow (machF m_b m_1))] w' := by
 obtain ⟨d_hl, d_hu⟩ : inI64 d := id d_h
 obtain ⟨⟨PO, CO⟩, hsent⟩ := ok
 have hRl := rds_len m
 have hSl := sts_len m
 have hP1 := PO.r1
 have hP2 := PO.s1
 have hPn := PO.n1
 have hC1 : -1 ≤ m.round ∧ m.round ≤ _ := CO.rd
 have hsq : 0 ≤ m.seq ∧ m.seq ≤ 40 := CO.sqb hP1
 have hkn : m.known.xs.length = _ := CO.kn
 have hwt : Asc _ m.waiting.xs := CO.wt
 have hwl := hwt.len
 have hOK : MachOK m := ⟨PO, CO⟩
 refine go Try.func86 rfl 7 rfl [] [bnO (machF m_b m)] hF M trivial ⟨m_K, trivial⟩ ?_
 intro a S
 refine r0 ?_
 refine sp S (tr (mv rfl)<|la (mv rfl)) ?_; clear S; intro a u S
 refine cl S (cRemove _ _ (S.xx (ow [bnO (machF m_b m)])) m_b m (S.mF (ks := []) (fs := [bnO (machF m_b m)])) (S.nfF (ks := []) (fs := [bnO (machF m_b m)]) hD) m_k (S.dF (ks := []) (fs := [bnO (machF m_b m)]) 0 rfl (mo_bn (mo_mach _ _))) d d_h (⟨by first | assumption | exact hOK, by first | omega | (dsimp only; omega)⟩)) cB116 ?_
 rintro e u ⟨m_t6, rfl, hk_m_t6, hK_m_t6, hq_m_t6, T0⟩; refine ⟨_, rfl, fun a s => ?_⟩
 have S2 := S.kF (ks := []) (fs := [bnO (machF m_b m)]) [bnO (machF m_b m_t6)] s T0 ⟨hK_m_t6, trivial⟩ ⟨(mo_bn (mo_mach _ _)), trivial⟩
 replace S2 := (show St _ _ _ _ _ _ [bnO (machF m_b m_t6)] _ _ from S2)
 clear S; have S := S2; clear S2 s T0 hK_m_t6
 refine nn ?_
 refine end0 rfl S.s ?_
 refine ⟨m_t6, rfl, hk_m_t6, (S.m.o _ (nth_mem (i := 0) rfl)), ?_, S.m.c⟩
 first | assumption | trivial | rfl
set_option maxHeartbeats 2000000 in
set_option maxRecDepth 20000 in
theorem cAck (w : World) (F : Nat → Prop) (hF : Old F w) (m_b : Nat) (m : Mach) (M : MS [In (ow (machF m_b m))] w) (hD : ∀ k, In [In (ow (machF m_b m))] k → ¬ F k) (m_k : machK m) (m_K : (bnO (machF m_b m)).p F (In [In (ow (machF m_b m))]) w) (d : Int) (d_h : inI64 d) (i : Int) (i_h : inI64 i) (q : Int) (q_h : inI64 q) (ok : MachOK m ∧ m.sent.xs.length ≤ 300000 ∧ 0 ≤ d ∧ d < m.target.xs.length) :
 Calls Try.prog 106 #[pT m_b 0, iI d, iI i, iI q] w fun e w' => ∃ (m_1 : Mach), e = .returned (.tuple #[]) ∧ machK m_1 ∧ (bnO (machF m_b m_1)).p F (In [In (ow (machF m_b m_1))]) w' ∧ (KeepM m m_1 ∧ absM m_1 = ackC (rdsM m) (stsM m) (absM m) d i q) ∧ Tr [In (ow (machF m_b m))] w [In (ow (machF m_b m_1))] w' := by
 obtain ⟨d_hl, d_hu⟩ : inI64 d := id d_h
 obtain ⟨i_hl, i_hu⟩ : inI64 i := id i_h
 obtain ⟨q_hl, q_hu⟩ : inI64 q := id q_h
 obtain ⟨⟨PO, CO⟩, hsent⟩ := ok
 have hRl := rds_len m
 have hSl := sts_len m
 have hP1 := PO.r1
 have hP2 := PO.s1
 have hPn := PO.n1
 have hC1 : -1 ≤ m.round ∧ m.round ≤ _ := CO.rd
 have hsq : 0 ≤ m.seq ∧ m.seq ≤ 40 := CO.sqb hP1
 have hkn : m.known.xs.length = _ := CO.kn
 have hwt : Asc _ m.waiting.xs := CO.wt
 have hwl := hwt.len
 obtain ⟨hsent, hd0, hd1⟩ := hsent
 have hOK : MachOK m := ⟨PO, CO⟩
 have hkl : m.known.xs.length = m.target.xs.length := CO.kn
 refine go Try.func106 rfl 30 rfl [] [bnO (machF m_b m)] hF M trivial ⟨m_K, trivial⟩ ?_
 intro a S
 refine rs0 ?_
 refine sp S (tr (mv rfl)<|tr (mv rfl)<|la (ov fun S=>x_nilck (S.e rfl))) ?_; clear S; intro a u S
 replace S := (show St _ _ _ _ _ _ [blO m_b [sV m.rounds, sV m.states, iI m.round, bD (m.back = true), iI m.seq, sV m.target, sV m.known, sV m.waiting, sV m.sent] 166, rwO intE 3 0 m.target.a m.target.c m.target.xs, rwO intE 3 0 m.known.a m.known.c m.known.xs, rwO intE 3 0 m.waiting.a m.waiting.c m.waiting.xs, rwO intE 3 0 m.sent.a m.sent.c m.sent.xs, daO (slE (slE chgE)) m.rounds, daO (slE (slE intE)) m.states] _ _ from S.opn (ks := []))
 replace S := S.ar (wfF (slE (slE chgE)) m.rounds) (S.da 5 rfl)
 replace S := S.ar (wfF (slE (slE intE)) m.states) (S.da 6 rfl)
 replace S := S.pk [0, 1, 2, 3, 4] (os' := [blO m_b [sV m.rounds, sV m.states, iI m.round, bD (m.back = true), iI m.seq, sV m.target, sV m.known, sV m.waiting, sV m.sent] 166, rwO intE 3 0 m.target.a m.target.c m.target.xs, rwO intE 3 0 m.known.a m.known.c m.known.xs, rwO intE 3 0 m.waiting.a m.waiting.c m.waiting.xs, rwO intE 3 0 m.sent.a m.sent.c m.sent.xs])
 have : m.target.xs.length ≤ 9223372036854775807 := (S.row 1 rfl).len_le
 have : m.known.xs.length ≤ 9223372036854775807 := (S.row 2 rfl).len_le
 have : m.waiting.xs.length ≤ 9223372036854775807 := (S.row 3 rfl).len_le
 have : m.sent.xs.length ≤ 9223372036854775807 := (S.row 4 rfl).len_le
 have : m.rounds.xs.length ≤ 9223372036854775807 := ((S.u 0 rfl)).1.len
 have : m.states.xs.length ≤ 9223372036854775807 := ((S.u 1 rfl)).1.len
 obtain ⟨_, _⟩ : inI64 m.round := m_k.1
 obtain ⟨_, _⟩ : inI64 m.seq := m_k.2
 obtain ⟨hl2, hu2⟩ : inI64 (m.known.xs.getD ((d).toNat) intE.dflt) := id ((S.row 2 rfl).wfi (d).toNat (by omega))
 refine ens S (tr (fldi 0 2 rfl uT166)<|tr (fldi (0 + 2) 4 rfl uT57)<|tr (ldk 0 sC22 rfl rfl rfl)<|tr (mv rfl)<|tr (ov fun S=>x_idx uT22 sZ3 (S.e rfl) (S.e rfl) (d).toNat (by omega) (by omega) (row_off (S.row 2 rfl) (m := (d).toNat) (by omega)))<|tr (ov fun S=>x_load sC3 (S.e rfl) (((S.row 2 rfl).latz (by first | decide | exact Nat.one_pos | exact Nat.succ_pos _)).cell (d).toNat (by omega) 0 _ rfl))<|tr (eqli rfl rfl)<|tr (mv rfl)<|tr (og 18 rfl gt fun S hg=>x_move (S.e rfl))<|tr (og 18 rfl gt fun S hg=>x_move (S.e rfl))<|tr (og 18 rfl gt fun S hg=>x_nilck (S.p rfl hg))<|tr (og 18 rfl gt fun S hg=>xf (0) 2 uT166 (S.p rfl hg))<|tr (og 18 rfl gt fun S hg=>xf (0 + 2) 2 uT57 (S.p rfl hg))<|tr (og 18 rfl gt fun S hg=>x_load sC3 (S.p rfl hg) ((S.k 0 rfl).cell (j := 4) rfl))<|tr (og 18 rfl gt fun S hg=>x_eql (S.p rfl hg) (S.p rfl hg))<|la (andi rfl rfl rfl)) ?_; clear S; intro a u S
 refine cd S rfl ?_ ?_
 ·intro hc0
  refine r0 ?_
  refine sp S (tr (mv rfl)<|la (mv rfl)) ?_; clear S; intro a u S
  replace S := S.oda (E := slE (slE chgE)) (x := m.rounds) (S.u 0 rfl)
  replace S := S.oda (E := slE (slE intE)) (x := m.states) (S.u 1 rfl)
  have hk4 : machK (⟨m.rounds, m.states, m.round, m.back, m.seq, (Sl.mk m.target.a m.target.c m.target.xs), (Sl.mk m.known.a m.known.c m.known.xs), (Sl.mk m.waiting.a m.waiting.c m.waiting.xs), (Sl.mk m.sent.a m.sent.c m.sent.xs)⟩ : Mach) := ⟨m_k.1, m_k.2⟩
  replace S := (show St _ _ _ _ _ _ ([] ++ machF m_b (⟨m.rounds, m.states, m.round, m.back, m.seq, (Sl.mk m.target.a m.target.c m.target.xs), (Sl.mk m.known.a m.known.c m.known.xs), (Sl.mk m.waiting.a m.waiting.c m.waiting.xs), (Sl.mk m.sent.a m.sent.c m.sent.xs)⟩ : Mach)) _ _ from S).cls
  replace S := (show St _ _ _ _ _ _ [bnO (machF m_b (⟨m.rounds, m.states, m.round, m.back, m.seq, (Sl.mk m.target.a m.target.c m.target.xs), (Sl.mk m.known.a m.known.c m.known.xs), (Sl.mk m.waiting.a m.waiting.c m.waiting.xs), (Sl.mk m.sent.a m.sent.c m.sent.xs)⟩ : Mach))] _ _ from S)
  obtain ⟨y5, hy5⟩ : ∃ y : Mach, (⟨m.rounds, m.states, m.round, m.back, m.seq, (Sl.mk m.target.a m.target.c m.target.xs), (Sl.mk m.known.a m.known.c m.known.xs), (Sl.mk m.waiting.a m.waiting.c m.waiting.xs), (Sl.mk m.sent.a m.sent.c m.sent.xs)⟩ : Mach) = y := ⟨_, rfl⟩; rw [hy5] at S hk4
  refine cl S (cRemove _ _ (S.xx (ow [bnO (machF m_b y5)])) m_b y5 (S.mF (ks := []) (fs := [bnO (machF m_b y5)])) (S.nfF (ks := []) (fs := [bnO (machF m_b y5)]) hD) hk4 (S.dF (ks := []) (fs := [bnO (machF m_b y5)]) 0 rfl (mo_bn (mo_mach _ _))) d d_h (by subst hy5; exact (⟨by first | assumption | exact hOK, by first | omega | (dsimp only; omega)⟩))) cB116 ?_
  rintro e u ⟨m_t29, rfl, hk_m_t29, hK_m_t29, hq_m_t29, T0⟩; refine ⟨_, rfl, fun a s => ?_⟩
  have S2 := S.kF (ks := []) (fs := [bnO (machF m_b y5)]) [bnO (machF m_b m_t29)] s T0 ⟨hK_m_t29, trivial⟩ ⟨(mo_bn (mo_mach _ _)), trivial⟩
  replace S2 := (show St _ _ _ _ _ _ [bnO (machF m_b m_t29)] _ _ from S2)
  clear S; have S := S2; clear S2 s T0 hK_m_t29
  subst hy5
  refine nn ?_
  refine end0 rfl S.s ?_
  refine ⟨m_t29, rfl, hk_m_t29, (S.m.o _ (nth_mem (i := 0) rfl)), ?_, S.m.c⟩
  refine ⟨hq_m_t29.1, hq_m_t29.2.trans ?_⟩
  unfold ackC
  rw [if_pos ⟨hc0.1, hc0.2⟩]; rfl
 intro hc1
 refine wp_skip ?_
 replace S := S.oda (E := slE (slE chgE)) (x := m.rounds) (S.u 0 rfl)
 replace S := S.oda (E := slE (slE intE)) (x := m.states) (S.u 1 rfl)
 have hk6 : machK (⟨m.rounds, m.states, m.round, m.back, m.seq, (Sl.mk m.target.a m.target.c m.target.xs), (Sl.mk m.known.a m.known.c m.known.xs), (Sl.mk m.waiting.a m.waiting.c m.waiting.xs), (Sl.mk m.sent.a m.sent.c m.sent.xs)⟩ : Mach) := ⟨m_k.1, m_k.2⟩
 replace S := (show St _ _ _ _ _ _ ([] ++ machF m_b (⟨m.rounds, m.states, m.round, m.back, m.seq, (Sl.mk m.target.a m.target.c m.target.xs), (Sl.mk m.known.a m.known.c m.known.xs), (Sl.mk m.waiting.a m.waiting.c m.waiting.xs), (Sl.mk m.sent.a m.sent.c m.sent.xs)⟩ : Mach)) _ _ from S).cls
 replace S := (show St _ _ _ _ _ _ [bnO (machF m_b (⟨m.rounds, m.states, m.round, m.back, m.seq, (Sl.mk m.target.a m.target.c m.target.xs), (Sl.mk m.known.a m.known.c m.known.xs), (Sl.mk m.waiting.a m.waiting.c m.waiting.xs), (Sl.mk m.sent.a m.sent.c m.sent.xs)⟩ : Mach))] _ _ from S)
 refine end0 rfl S.s ?_
 refine ⟨(⟨m.rounds, m.states, m.round, m.back, m.seq, (Sl.mk m.target.a m.target.c m.target.xs), (Sl.mk m.known.a m.known.c m.known.xs), (Sl.mk m.waiting.a m.waiting.c m.waiting.xs), (Sl.mk m.sent.a m.sent.c m.sent.xs)⟩ : Mach), rfl, hk6, (S.m.o _ (nth_mem (i := 0) rfl)), ?_, S.m.c⟩
 refine ⟨⟨rfl, rfl⟩, ?_⟩
 unfold ackC
 rw [if_neg fun h => hc1 ⟨h.1, h.2⟩]
set_option maxHeartbeats 2000000 in
set_option maxRecDepth 20000 in
theorem cDevices (w : World) (F : Nat → Prop) (hF : Old F w) (M : MS [] w) (m : Nat × Mach) (m_w : (ptE machE 166).wf (Fr F []) w.heap m) :
 Calls Try.prog 72 #[pT m.1 0] w fun e w' => e = .returned (iN m.2.target.xs.length) ∧ Tr [] w [] w' := by
 have : m.2.rounds.xs.length ≤ 9223372036854775807 := (m_w.2.2.1).1.len
 have : m.2.states.xs.length ≤ 9223372036854775807 := (m_w.2.2.2.1).1.len
 obtain ⟨_, _⟩ : inI64 m.2.round := m_w.2.2.2.2.1
 obtain ⟨_, _⟩ : inI64 m.2.seq := m_w.2.2.2.2.2.2.1
 have : m.2.target.xs.length ≤ 9223372036854775807 := (m_w.2.2.2.2.2.2.2.1).1.len
 have : m.2.known.xs.length ≤ 9223372036854775807 := (m_w.2.2.2.2.2.2.2.2.1).1.len
 have : m.2.waiting.xs.length ≤ 9223372036854775807 := (m_w.2.2.2.2.2.2.2.2.2.1).1.len
 have : m.2.sent.xs.length ≤ 9223372036854775807 := (m_w.2.2.2.2.2.2.2.2.2.2).1.len
 refine go Try.func72 rfl 9 rfl [wfF (ptE machE 166) m] [] hF M ⟨m_w, trivial⟩ trivial ?_
 intro a S
 have hD : ∀ k, In ([] : List BS) k → ¬ F k := fun _ h => h.elim
 refine rs S (la (av rfl)) ?_; clear S; intro a u S
 have hn3 : m.2.target.xs.length ≤ 9223372036854775807 := (((S.u 0 rfl).2.2).2.2.2.2.2.1).1.len
 refine rs S (tr (mv rfl)<|tr (ov fun S=>x_nilck (S.e rfl))<|tr (fldi 0 2 rfl uT166)<|tr (fldi (0 + 2) 3 rfl uT57)<|tr (ov fun S=>x_load sC22 (S.e rfl) ((S.u 0 rfl).1.cell (j := 5) rfl))<|tr (leni uT22 rfl)<|la (av rfl)) ?_; clear S; intro a u S
 refine wp_ret ?_
 refine ret1 rfl S.s rfl ?_
 refine ⟨(r1 (vi ?_)), S.m.c⟩
 first | rfl | omega | assumption
set_option maxHeartbeats 2000000 in
set_option maxRecDepth 20000 in
theorem cAbort (w : World) (F : Nat → Prop) (hF : Old F w) (m_b : Nat) (m : Mach) (M : MS [In (ow (machF m_b m))] w) (hD : ∀ k, In [In (ow (machF m_b m))] k → ¬ F k) (m_k : machK m) (m_K : (bnO (machF m_b m)).p F (In [In (ow (machF m_b m))]) w) (ok : MachOK m ∧ m.sent.xs.length ≤ 300000) :
 Calls Try.prog 87 #[pT m_b 0] w fun e w' => ∃ (m_1 : Mach), e = .returned (.tuple #[]) ∧ machK m_1 ∧ (bnO (machF m_b m_1)).p F (In [In (ow (machF m_b m_1))]) w' ∧ (KeepM m m_1 ∧ absM m_1 = abortC (rdsM m) (stsM m) (absM m)) ∧ Tr [In (ow (machF m_b m))] w [In (ow (machF m_b m_1))] w' := by
 obtain ⟨⟨PO, CO⟩, hsent⟩ := ok
 have hRl := rds_len m
 have hSl := sts_len m
 have hP1 := PO.r1
 have hP2 := PO.s1
 have hPn := PO.n1
 have hC1 : -1 ≤ m.round ∧ m.round ≤ _ := CO.rd
 have hsq : 0 ≤ m.seq ∧ m.seq ≤ 40 := CO.sqb hP1
 have hkn : m.known.xs.length = _ := CO.kn
 have hwt : Asc _ m.waiting.xs := CO.wt
 have hwl := hwt.len
 have hOK0 : MachOK m := ⟨PO, CO⟩
 refine go Try.func87 rfl 15 rfl [] [bnO (machF m_b m)] hF M trivial ⟨m_K, trivial⟩ ?_
 intro a S
 refine wp_seq (rs0 ?_)
 refine sp S (tr (mv rfl)<|la (ov fun S=>x_nilck (S.e rfl))) ?_; clear S; intro a u S
 replace S := (show St _ _ _ _ _ _ [blO m_b [sV m.rounds, sV m.states, iI m.round, bD (m.back = true), iI m.seq, sV m.target, sV m.known, sV m.waiting, sV m.sent] 166, rwO intE 3 0 m.target.a m.target.c m.target.xs, rwO intE 3 0 m.known.a m.known.c m.known.xs, rwO intE 3 0 m.waiting.a m.waiting.c m.waiting.xs, rwO intE 3 0 m.sent.a m.sent.c m.sent.xs, daO (slE (slE chgE)) m.rounds, daO (slE (slE intE)) m.states] _ _ from S.opn (ks := []))
 replace S := S.ar (wfF (slE (slE chgE)) m.rounds) (S.da 5 rfl)
 replace S := S.ar (wfF (slE (slE intE)) m.states) (S.da 6 rfl)
 replace S := S.pk [0, 1, 2, 3, 4] (os' := [blO m_b [sV m.rounds, sV m.states, iI m.round, bD (m.back = true), iI m.seq, sV m.target, sV m.known, sV m.waiting, sV m.sent] 166, rwO intE 3 0 m.target.a m.target.c m.target.xs, rwO intE 3 0 m.known.a m.known.c m.known.xs, rwO intE 3 0 m.waiting.a m.waiting.c m.waiting.xs, rwO intE 3 0 m.sent.a m.sent.c m.sent.xs])
 have : m.target.xs.length ≤ 9223372036854775807 := (S.row 1 rfl).len_le
 have : m.known.xs.length ≤ 9223372036854775807 := (S.row 2 rfl).len_le
 have : m.waiting.xs.length ≤ 9223372036854775807 := (S.row 3 rfl).len_le
 have : m.sent.xs.length ≤ 9223372036854775807 := (S.row 4 rfl).len_le
 have : m.rounds.xs.length ≤ 9223372036854775807 := ((S.u 0 rfl)).1.len
 have : m.states.xs.length ≤ 9223372036854775807 := ((S.u 1 rfl)).1.len
 obtain ⟨_, _⟩ : inI64 m.round := m_k.1
 obtain ⟨_, _⟩ : inI64 m.seq := m_k.2
 refine ens S (tr (fldi 0 2 rfl uT166)<|tr (fldi (0 + 2) 1 rfl uT57)<|la (ldk 0 sC4 rfl rfl rfl)) ?_; clear S; intro a u S
 refine cd S rfl ?_ ?_
 ·intro hc0
  refine wp_ret (then_r ?_)
  replace S := S.oda (E := slE (slE chgE)) (x := m.rounds) (S.u 0 rfl)
  replace S := S.oda (E := slE (slE intE)) (x := m.states) (S.u 1 rfl)
  have hk2 : machK (⟨m.rounds, m.states, m.round, m.back, m.seq, (Sl.mk m.target.a m.target.c m.target.xs), (Sl.mk m.known.a m.known.c m.known.xs), (Sl.mk m.waiting.a m.waiting.c m.waiting.xs), (Sl.mk m.sent.a m.sent.c m.sent.xs)⟩ : Mach) := ⟨m_k.1, m_k.2⟩
  replace S := (show St _ _ _ _ _ _ ([] ++ machF m_b (⟨m.rounds, m.states, m.round, m.back, m.seq, (Sl.mk m.target.a m.target.c m.target.xs), (Sl.mk m.known.a m.known.c m.known.xs), (Sl.mk m.waiting.a m.waiting.c m.waiting.xs), (Sl.mk m.sent.a m.sent.c m.sent.xs)⟩ : Mach)) _ _ from S).cls
  replace S := (show St _ _ _ _ _ _ [bnO (machF m_b (⟨m.rounds, m.states, m.round, m.back, m.seq, (Sl.mk m.target.a m.target.c m.target.xs), (Sl.mk m.known.a m.known.c m.known.xs), (Sl.mk m.waiting.a m.waiting.c m.waiting.xs), (Sl.mk m.sent.a m.sent.c m.sent.xs)⟩ : Mach))] _ _ from S)
  refine ret0 rfl S.s  ?_
  refine ⟨(⟨m.rounds, m.states, m.round, m.back, m.seq, (Sl.mk m.target.a m.target.c m.target.xs), (Sl.mk m.known.a m.known.c m.known.xs), (Sl.mk m.waiting.a m.waiting.c m.waiting.xs), (Sl.mk m.sent.a m.sent.c m.sent.xs)⟩ : Mach), rfl, hk2, (S.m.o _ (nth_mem (i := 0) rfl)), ?_, S.m.c⟩
  refine ⟨⟨rfl, rfl⟩, ?_⟩
  unfold abortC
  rw [if_pos (show (absM m).back = true from hc0)]
 intro hc1
 have hOK : MachOK {m with back := true} := machOK_of hOK0 ⟨rfl, rfl⟩ (CO.bk hc1)
 have hAb := abort_ok PO CO hc1
 refine wp_skip (then_n ?_)
 refine rs S (tr (mv rfl)<|tr (ov fun S=>x_nilck (S.e rfl))<|tr (fldi 0 2 rfl uT166)<|tr (fldi (0 + 2) 1 rfl uT57)<|la (stk 0 rfl rfl rfl)) ?_; clear S; intro a u S
 refine rs0 ?_
 refine sp S (la (mv rfl)) ?_; clear S; intro a u S
 replace S := S.oda (E := slE (slE chgE)) (x := m.rounds) (S.u 0 rfl)
 replace S := S.oda (E := slE (slE intE)) (x := m.states) (S.u 1 rfl)
 have hk5 : machK (⟨m.rounds, m.states, m.round, true, m.seq, (Sl.mk m.target.a m.target.c m.target.xs), (Sl.mk m.known.a m.known.c m.known.xs), (Sl.mk m.waiting.a m.waiting.c m.waiting.xs), (Sl.mk m.sent.a m.sent.c m.sent.xs)⟩ : Mach) := ⟨m_k.1, m_k.2⟩
 replace S := (show St _ _ _ _ _ _ ([] ++ machF m_b (⟨m.rounds, m.states, m.round, true, m.seq, (Sl.mk m.target.a m.target.c m.target.xs), (Sl.mk m.known.a m.known.c m.known.xs), (Sl.mk m.waiting.a m.waiting.c m.waiting.xs), (Sl.mk m.sent.a m.sent.c m.sent.xs)⟩ : Mach)) _ _ from S).cls
 replace S := (show St _ _ _ _ _ _ [bnO (machF m_b (⟨m.rounds, m.states, m.round, true, m.seq, (Sl.mk m.target.a m.target.c m.target.xs), (Sl.mk m.known.a m.known.c m.known.xs), (Sl.mk m.waiting.a m.waiting.c m.waiting.xs), (Sl.mk m.sent.a m.sent.c m.sent.xs)⟩ : Mach))] _ _ from S)
 obtain ⟨y6, hy6⟩ : ∃ y : Mach, (⟨m.rounds, m.states, m.round, true, m.seq, (Sl.mk m.target.a m.target.c m.target.xs), (Sl.mk m.known.a m.known.c m.known.xs), (Sl.mk m.waiting.a m.waiting.c m.waiting.xs), (Sl.mk m.sent.a m.sent.c m.sent.xs)⟩ : Mach) = y := ⟨_, rfl⟩; rw [hy6] at S hk5
 refine cl S (cStart _ _ (S.xx (ow [bnO (machF m_b y6)])) m_b y6 (S.mF (ks := []) (fs := [bnO (machF m_b y6)])) (S.nfF (ks := []) (fs := [bnO (machF m_b y6)]) hD) hk5 (S.dF (ks := []) (fs := [bnO (machF m_b y6)]) 0 rfl (mo_bn (mo_mach _ _))) (by subst hy6; exact (⟨by first | assumption | exact hOK, by first | omega | (dsimp only; omega) | simp⟩))) cB105 ?_
 rintro e u ⟨m_t12, rfl, hk_m_t12, hK_m_t12, hq_m_t12, T0⟩; refine ⟨_, rfl, fun a s => ?_⟩
 have S2 := S.kF (ks := []) (fs := [bnO (machF m_b y6)]) [bnO (machF m_b m_t12)] s T0 ⟨hK_m_t12, trivial⟩ ⟨(mo_bn (mo_mach _ _)), trivial⟩
 replace S2 := (show St _ _ _ _ _ _ [bnO (machF m_b m_t12)] _ _ from S2)
 clear S; have S := S2; clear S2 s T0 hK_m_t12
 subst hy6
 have hk1 : KeepM m m_t12 := ⟨hq_m_t12.1.1, hq_m_t12.1.2⟩
 have hm12 : absM m_t12 = startC (rdsM m) (stsM m) {absM m with back := true} := hq_m_t12.2
 have hOK : MachOK m_t12 := machOK_of hOK0 hk1 (by rw [hm12]; exact hAb.1)
 have hsl : m_t12.sent.xs.length ≤ m.sent.xs.length + 1000 := by
  have := hAb.2
  rw [← hm12] at this
  exact this
 refine ent (r0 ?_)
 refine sp S (la (mv rfl)) ?_; clear S; intro a u S
 refine cl S (cAdvance _ _ (S.xx (ow [bnO (machF m_b m_t12)])) m_b m_t12 (S.mF (ks := []) (fs := [bnO (machF m_b m_t12)])) (S.nfF (ks := []) (fs := [bnO (machF m_b m_t12)]) hD) hk_m_t12 (S.dF (ks := []) (fs := [bnO (machF m_b m_t12)]) 0 rfl (mo_bn (mo_mach _ _))) (⟨by first | assumption | exact hOK, by first | omega | (dsimp only; omega)⟩)) cB117 ?_
 rintro e u ⟨m_t14, rfl, hk_m_t14, hK_m_t14, hq_m_t14, T0⟩; refine ⟨_, rfl, fun a s => ?_⟩
 have S2 := S.kF (ks := []) (fs := [bnO (machF m_b m_t12)]) [bnO (machF m_b m_t14)] s T0 ⟨hK_m_t14, trivial⟩ ⟨(mo_bn (mo_mach _ _)), trivial⟩
 replace S2 := (show St _ _ _ _ _ _ [bnO (machF m_b m_t14)] _ _ from S2)
 clear S; have S := S2; clear S2 s T0 hK_m_t14
 refine nn ?_
 refine end0 rfl S.s ?_
 refine ⟨m_t14, rfl, hk_m_t14, (S.m.o _ (nth_mem (i := 0) rfl)), ?_, S.m.c⟩
 refine ⟨KeepM.trans hk1 ⟨hq_m_t14.1.1, hq_m_t14.1.2⟩, ?_⟩
 have e14 : absM m_t14 = advA (rdsM m_t12) (stsM m_t12) (absM m_t12) := hq_m_t14.2
 show absM m_t14 = _
 rw [e14, keep_rds hk1, keep_sts hk1, hm12]
 unfold abortC
 rw [if_neg (show ¬ (absM m).back = true from hc1)]
set_option maxHeartbeats 2000000 in
set_option maxRecDepth 20000 in
theorem cHello (w : World) (F : Nat → Prop) (hF : Old F w) (m_b : Nat) (m : Mach) (M : MS [In (ow (machF m_b m))] w) (hD : ∀ k, In [In (ow (machF m_b m))] k → ¬ F k) (m_k : machK m) (m_K : (bnO (machF m_b m)).p F (In [In (ow (machF m_b m))]) w) (d : Int) (d_h : inI64 d) (i : Int) (i_h : inI64 i) (ok : MachOK m ∧ m.sent.xs.length ≤ 300000 ∧ 0 ≤ d ∧ d < m.target.xs.length) :
 Calls Try.prog 107 #[pT m_b 0, iI d, iI i] w fun e w' => ∃ (m_1 : Mach), e = .returned (.tuple #[]) ∧ machK m_1 ∧ (bnO (machF m_b m_1)).p F (In [In (ow (machF m_b m_1))]) w' ∧ (KeepM m m_1 ∧ absM m_1 = helloC (absM m) d i) ∧ Tr [In (ow (machF m_b m))] w [In (ow (machF m_b m_1))] w' := by
 obtain ⟨d_hl, d_hu⟩ : inI64 d := id d_h
 obtain ⟨i_hl, i_hu⟩ : inI64 i := id i_h
 obtain ⟨⟨PO, CO⟩, hsent⟩ := ok
 have hRl := rds_len m
 have hSl := sts_len m
 have hP1 := PO.r1
 have hP2 := PO.s1
 have hPn := PO.n1
 have hC1 : -1 ≤ m.round ∧ m.round ≤ _ := CO.rd
 have hsq : 0 ≤ m.seq ∧ m.seq ≤ 40 := CO.sqb hP1
 have hkn : m.known.xs.length = _ := CO.kn
 have hwt : Asc _ m.waiting.xs := CO.wt
 have hwl := hwt.len
 obtain ⟨hsent, hd0, hd1⟩ := hsent
 have hOK : MachOK m := ⟨PO, CO⟩
 have hkl : m.known.xs.length = m.target.xs.length := CO.kn
 have hwj : m.waiting.xs.Pairwise (· < ·) ∧ m.waiting.xs.length ≤ 1000 := ⟨hwt.1, by omega⟩
 refine go Try.func107 rfl 37 rfl [] [bnO (machF m_b m)] hF M trivial ⟨m_K, trivial⟩ ?_
 intro a S
 refine rs0 ?_
 refine sp S (tr (mv rfl)<|tr (mv rfl)<|la (ov fun S=>x_nilck (S.e rfl))) ?_; clear S; intro a u S
 replace S := (show St _ _ _ _ _ _ [blO m_b [sV m.rounds, sV m.states, iI m.round, bD (m.back = true), iI m.seq, sV m.target, sV m.known, sV m.waiting, sV m.sent] 166, rwO intE 3 0 m.target.a m.target.c m.target.xs, rwO intE 3 0 m.known.a m.known.c m.known.xs, rwO intE 3 0 m.waiting.a m.waiting.c m.waiting.xs, rwO intE 3 0 m.sent.a m.sent.c m.sent.xs, daO (slE (slE chgE)) m.rounds, daO (slE (slE intE)) m.states] _ _ from S.opn (ks := []))
 replace S := S.ar (wfF (slE (slE chgE)) m.rounds) (S.da 5 rfl)
 replace S := S.ar (wfF (slE (slE intE)) m.states) (S.da 6 rfl)
 replace S := S.pk [0, 1, 2, 3, 4] (os' := [blO m_b [sV m.rounds, sV m.states, iI m.round, bD (m.back = true), iI m.seq, sV m.target, sV m.known, sV m.waiting, sV m.sent] 166, rwO intE 3 0 m.target.a m.target.c m.target.xs, rwO intE 3 0 m.known.a m.known.c m.known.xs, rwO intE 3 0 m.waiting.a m.waiting.c m.waiting.xs, rwO intE 3 0 m.sent.a m.sent.c m.sent.xs])
 have : m.target.xs.length ≤ 9223372036854775807 := (S.row 1 rfl).len_le
 have : m.known.xs.length ≤ 9223372036854775807 := (S.row 2 rfl).len_le
 have : m.waiting.xs.length ≤ 9223372036854775807 := (S.row 3 rfl).len_le
 have : m.sent.xs.length ≤ 9223372036854775807 := (S.row 4 rfl).len_le
 have : m.rounds.xs.length ≤ 9223372036854775807 := ((S.u 0 rfl)).1.len
 have : m.states.xs.length ≤ 9223372036854775807 := ((S.u 1 rfl)).1.len
 obtain ⟨_, _⟩ : inI64 m.round := m_k.1
 obtain ⟨_, _⟩ : inI64 m.seq := m_k.2
 obtain ⟨hl2, hu2⟩ : inI64 (m.known.xs.getD ((d).toNat) intE.dflt) := id ((S.row 2 rfl).wfi (d).toNat (by omega))
 refine ens S (tr (fldi 0 2 rfl uT166)<|tr (fldi (0 + 2) 4 rfl uT57)<|tr (ldk 0 sC22 rfl rfl rfl)<|tr (mv rfl)<|tr (ov fun S=>x_idx uT22 sZ3 (S.e rfl) (S.e rfl) (d).toNat (by omega) (by omega) (row_off (S.row 2 rfl) (m := (d).toNat) (by omega)))<|tr (ov fun S=>x_load sC3 (S.e rfl) (((S.row 2 rfl).latz (by first | decide | exact Nat.one_pos | exact Nat.succ_pos _)).cell (d).toNat (by omega) 0 _ rfl))<|la (gtri rfl rfl)) ?_; clear S; intro a u S
 refine cd S rfl ?_ ?_
 ·intro hc0
  refine rs0 ?_
  refine sp S (tr (mv rfl)<|tr (ov fun S=>x_nilck (S.e rfl))<|tr (fldi 0 2 rfl uT166)<|tr (fldi (0 + 2) 4 rfl uT57)<|tr (ldk 0 sC22 rfl rfl rfl)<|tr (mv rfl)<|tr (mv rfl)<|la (ov fun S=>x_idx uT22 sZ3 (S.e rfl) (S.e rfl) (d).toNat (by omega) (by omega) (row_off (S.row 2 rfl) (m := (d).toNat) (by omega)))) ?_; clear S; intro a u S
  refine sp S (la (str (E := intE) 2 (by kernel_rfl) rfl rfl rfl (d).toNat 0 (by omega) (by first | decide | exact Nat.one_pos | exact Nat.succ_pos _) i (fun S=>i_h) rfl (by first | rfl | (show _ = _ * 1 + 0; omega) | (simp [intE]; omega) | simp [intE]) rfl)) ?_; clear S; intro a u S
  have hls4 : (m.known.xs.set (d).toNat i).length = m.known.xs.length := by simp
  refine ent (rs0 ?_)
  refine sp S (tr (mv rfl)<|la (mv rfl)) ?_; clear S; intro a u S
  replace S := (show St _ _ _ _ _ _ [blO m_b [sV m.rounds, sV m.states, iI m.round, bD (m.back = true), iI m.seq, sV m.target, .slice m.known.a ((m.known.xs.set (d).toNat i).length) m.known.c, sV m.waiting, sV m.sent] 166, rwO intE 3 0 m.target.a m.target.c m.target.xs, rwO intE 3 0 m.known.a m.known.c (m.known.xs.set (d).toNat i), rwO intE 3 0 m.waiting.a m.waiting.c m.waiting.xs, rwO intE 3 0 m.sent.a m.sent.c m.sent.xs] _ _ from S.k1s 0 rfl (blO m_b [sV m.rounds, sV m.states, iI m.round, bD (m.back = true), iI m.seq, sV m.target, .slice m.known.a ((m.known.xs.set (d).toNat i).length) m.known.c, sV m.waiting, sV m.sent] 166) rfl S.s (Ch.refl _) (by have hb := S.k 0 rfl; simp only [blO, List.length_set, List.length_replicate]; exact hb))
  replace S := S.oda (E := slE (slE chgE)) (x := m.rounds) (S.u 0 rfl)
  replace S := S.oda (E := slE (slE intE)) (x := m.states) (S.u 1 rfl)
  have hk6 : machK (⟨m.rounds, m.states, m.round, m.back, m.seq, (Sl.mk m.target.a m.target.c m.target.xs), (Sl.mk m.known.a m.known.c (m.known.xs.set (d).toNat i)), (Sl.mk m.waiting.a m.waiting.c m.waiting.xs), (Sl.mk m.sent.a m.sent.c m.sent.xs)⟩ : Mach) := ⟨m_k.1, m_k.2⟩
  replace S := (show St _ _ _ _ _ _ ([] ++ machF m_b (⟨m.rounds, m.states, m.round, m.back, m.seq, (Sl.mk m.target.a m.target.c m.target.xs), (Sl.mk m.known.a m.known.c (m.known.xs.set (d).toNat i)), (Sl.mk m.waiting.a m.waiting.c m.waiting.xs), (Sl.mk m.sent.a m.sent.c m.sent.xs)⟩ : Mach)) _ _ from S).cls
  replace S := (show St _ _ _ _ _ _ [bnO (machF m_b (⟨m.rounds, m.states, m.round, m.back, m.seq, (Sl.mk m.target.a m.target.c m.target.xs), (Sl.mk m.known.a m.known.c (m.known.xs.set (d).toNat i)), (Sl.mk m.waiting.a m.waiting.c m.waiting.xs), (Sl.mk m.sent.a m.sent.c m.sent.xs)⟩ : Mach))] _ _ from S)
  obtain ⟨y7, hy7⟩ : ∃ y : Mach, (⟨m.rounds, m.states, m.round, m.back, m.seq, (Sl.mk m.target.a m.target.c m.target.xs), (Sl.mk m.known.a m.known.c (m.known.xs.set (d).toNat i)), (Sl.mk m.waiting.a m.waiting.c m.waiting.xs), (Sl.mk m.sent.a m.sent.c m.sent.xs)⟩ : Mach) = y := ⟨_, rfl⟩; rw [hy7] at S hk6
  refine cl S (cWait _ _ (S.xx (ow [bnO (machF m_b y7)])) m_b y7 (S.mF (ks := []) (fs := [bnO (machF m_b y7)])) (S.nfF (ks := []) (fs := [bnO (machF m_b y7)]) hD) hk6 (S.dF (ks := []) (fs := [bnO (machF m_b y7)]) 0 rfl (mo_bn (mo_mach _ _))) d d_h (by subst hy7; exact (by assumption))) cB122 ?_
  rintro e u ⟨m_t26, rfl, hk_m_t26, hK_m_t26, hq_m_t26, T0⟩; refine ⟨_, rfl, fun a s => ?_⟩
  have S2 := S.kF (ks := []) (fs := [bnO (machF m_b y7)]) [bnO (machF m_b m_t26)] s T0 ⟨hK_m_t26, trivial⟩ ⟨(mo_bn (mo_mach _ _)), trivial⟩
  replace S2 := (show St _ _ _ _ _ _ [bnO (machF m_b m_t26)] _ _ from S2)
  clear S; have S := S2; clear S2 s T0 hK_m_t26
  subst hy7
  have hs26 : m_t26.sent.xs = m.sent.xs := congrArg Ctl.sent hq_m_t26.2
  have hs26l := congrArg List.length hs26
  refine ent (r0 ?_)
  refine sp S (tr (mv rfl)<|tr (mv rfl)<|la (ov fun S=>x_nilck (S.e rfl))) ?_; clear S; intro a u S
  replace S := (show St _ _ _ _ _ _ [blO m_b [sV m_t26.rounds, sV m_t26.states, iI m_t26.round, bD (m_t26.back = true), iI m_t26.seq, sV m_t26.target, sV m_t26.known, sV m_t26.waiting, sV m_t26.sent] 166, rwO intE 3 0 m_t26.target.a m_t26.target.c m_t26.target.xs, rwO intE 3 0 m_t26.known.a m_t26.known.c m_t26.known.xs, rwO intE 3 0 m_t26.waiting.a m_t26.waiting.c m_t26.waiting.xs, rwO intE 3 0 m_t26.sent.a m_t26.sent.c m_t26.sent.xs, daO (slE (slE chgE)) m_t26.rounds, daO (slE (slE intE)) m_t26.states] _ _ from S.opn (ks := []))
  replace S := S.ar (wfF (slE (slE chgE)) m_t26.rounds) (S.da 5 rfl)
  replace S := S.ar (wfF (slE (slE intE)) m_t26.states) (S.da 6 rfl)
  replace S := S.pk [0, 1, 2, 3, 4] (os' := [blO m_b [sV m_t26.rounds, sV m_t26.states, iI m_t26.round, bD (m_t26.back = true), iI m_t26.seq, sV m_t26.target, sV m_t26.known, sV m_t26.waiting, sV m_t26.sent] 166, rwO intE 3 0 m_t26.target.a m_t26.target.c m_t26.target.xs, rwO intE 3 0 m_t26.known.a m_t26.known.c m_t26.known.xs, rwO intE 3 0 m_t26.waiting.a m_t26.waiting.c m_t26.waiting.xs, rwO intE 3 0 m_t26.sent.a m_t26.sent.c m_t26.sent.xs])
  have : m_t26.target.xs.length ≤ 9223372036854775807 := (S.row 1 rfl).len_le
  have : m_t26.known.xs.length ≤ 9223372036854775807 := (S.row 2 rfl).len_le
  have : m_t26.waiting.xs.length ≤ 9223372036854775807 := (S.row 3 rfl).len_le
  have : m_t26.sent.xs.length ≤ 9223372036854775807 := (S.row 4 rfl).len_le
  have : m_t26.rounds.xs.length ≤ 9223372036854775807 := ((S.u 2 rfl)).1.len
  have : m_t26.states.xs.length ≤ 9223372036854775807 := ((S.u 3 rfl)).1.len
  obtain ⟨_, _⟩ : inI64 m_t26.round := hk_m_t26.1
  obtain ⟨_, _⟩ : inI64 m_t26.seq := hk_m_t26.2
  refine sp S (tr (fldi 0 8 rfl uT166)<|tr (ldk 0 sC22 rfl rfl rfl)<|la (mv rfl)) ?_; clear S; intro a u S
  refine nbs intE S [d] (x_bs S [(0, iI d)] uT22 iZ3) (fun x hx => by simp only [List.mem_cons, List.not_mem_nil, or_false] at hx; rw [hx]; exact (show intE.wf _ _ d from d_h)) ?_; clear S; intro a u b33 S
  refine ap (E := intE) (ys := [d]) S 4 rfl uT22 iZ3 rfl rfl (show LAt intE _ _ (some ⟨b33, 0, none⟩) ([d]) from ((S.u 4 rfl)).1) ((S.u 4 rfl)).2.2 (LAt.mem (show LAt intE _ _ (some ⟨b33, 0, none⟩) ([d]) from ((S.u 4 rfl)).1)) ⟨by unfold maxLen; (try simp only [List.length_cons, List.length_nil, List.length_append, List.length_map]); omega, by (try simp only [List.length_cons, List.length_nil, List.length_append, List.length_map]); omega⟩ ?_; clear S; intro a u ad34 cap34 S
  refine en S (tr (ov fun S=>x_nilck (S.e rfl))<|tr (fldi 0 8 rfl uT166)<|la (stk 0 rfl rfl rfl)) ?_; clear S; intro a u S
  replace S := S.oda (E := slE (slE chgE)) (x := m_t26.rounds) (S.u 2 rfl)
  replace S := S.oda (E := slE (slE intE)) (x := m_t26.states) (S.u 3 rfl)
  have hk9 : machK (⟨m_t26.rounds, m_t26.states, m_t26.round, m_t26.back, m_t26.seq, (Sl.mk m_t26.target.a m_t26.target.c m_t26.target.xs), (Sl.mk m_t26.known.a m_t26.known.c m_t26.known.xs), (Sl.mk m_t26.waiting.a m_t26.waiting.c m_t26.waiting.xs), (Sl.mk ad34 cap34 (m_t26.sent.xs ++ [d]))⟩ : Mach) := ⟨hk_m_t26.1, hk_m_t26.2⟩
  replace S := (show St _ _ _ _ _ _ ([] ++ machF m_b (⟨m_t26.rounds, m_t26.states, m_t26.round, m_t26.back, m_t26.seq, (Sl.mk m_t26.target.a m_t26.target.c m_t26.target.xs), (Sl.mk m_t26.known.a m_t26.known.c m_t26.known.xs), (Sl.mk m_t26.waiting.a m_t26.waiting.c m_t26.waiting.xs), (Sl.mk ad34 cap34 (m_t26.sent.xs ++ [d]))⟩ : Mach)) _ _ from S).cls
  replace S := (show St _ _ _ _ _ _ [bnO (machF m_b (⟨m_t26.rounds, m_t26.states, m_t26.round, m_t26.back, m_t26.seq, (Sl.mk m_t26.target.a m_t26.target.c m_t26.target.xs), (Sl.mk m_t26.known.a m_t26.known.c m_t26.known.xs), (Sl.mk m_t26.waiting.a m_t26.waiting.c m_t26.waiting.xs), (Sl.mk ad34 cap34 (m_t26.sent.xs ++ [d]))⟩ : Mach))] _ _ from S)
  refine end0 rfl S.s ?_
  refine ⟨(⟨m_t26.rounds, m_t26.states, m_t26.round, m_t26.back, m_t26.seq, (Sl.mk m_t26.target.a m_t26.target.c m_t26.target.xs), (Sl.mk m_t26.known.a m_t26.known.c m_t26.known.xs), (Sl.mk m_t26.waiting.a m_t26.waiting.c m_t26.waiting.xs), (Sl.mk ad34 cap34 (m_t26.sent.xs ++ [d]))⟩ : Mach), rfl, hk9, (S.m.o _ (nth_mem (i := 0) rfl)), ?_, S.m.c⟩
  refine ⟨⟨hq_m_t26.1.1, hq_m_t26.1.2⟩, ?_⟩
  unfold helloC
  rw [if_pos (show (absM m).known.getD d.toNat 0 < i from hc0)]
  show {absM m_t26 with sent := m_t26.sent.xs ++ [d]} = _
  rw [hq_m_t26.2, hs26]; rfl
 intro hc1
 refine wp_skip ?_
 replace S := S.oda (E := slE (slE chgE)) (x := m.rounds) (S.u 0 rfl)
 replace S := S.oda (E := slE (slE intE)) (x := m.states) (S.u 1 rfl)
 have hk10 : machK (⟨m.rounds, m.states, m.round, m.back, m.seq, (Sl.mk m.target.a m.target.c m.target.xs), (Sl.mk m.known.a m.known.c m.known.xs), (Sl.mk m.waiting.a m.waiting.c m.waiting.xs), (Sl.mk m.sent.a m.sent.c m.sent.xs)⟩ : Mach) := ⟨m_k.1, m_k.2⟩
 replace S := (show St _ _ _ _ _ _ ([] ++ machF m_b (⟨m.rounds, m.states, m.round, m.back, m.seq, (Sl.mk m.target.a m.target.c m.target.xs), (Sl.mk m.known.a m.known.c m.known.xs), (Sl.mk m.waiting.a m.waiting.c m.waiting.xs), (Sl.mk m.sent.a m.sent.c m.sent.xs)⟩ : Mach)) _ _ from S).cls
 replace S := (show St _ _ _ _ _ _ [bnO (machF m_b (⟨m.rounds, m.states, m.round, m.back, m.seq, (Sl.mk m.target.a m.target.c m.target.xs), (Sl.mk m.known.a m.known.c m.known.xs), (Sl.mk m.waiting.a m.waiting.c m.waiting.xs), (Sl.mk m.sent.a m.sent.c m.sent.xs)⟩ : Mach))] _ _ from S)
 refine end0 rfl S.s ?_
 refine ⟨(⟨m.rounds, m.states, m.round, m.back, m.seq, (Sl.mk m.target.a m.target.c m.target.xs), (Sl.mk m.known.a m.known.c m.known.xs), (Sl.mk m.waiting.a m.waiting.c m.waiting.xs), (Sl.mk m.sent.a m.sent.c m.sent.xs)⟩ : Mach), rfl, hk10, (S.m.o _ (nth_mem (i := 0) rfl)), ?_, S.m.c⟩
 refine ⟨⟨rfl, rfl⟩, ?_⟩
 unfold helloC
 rw [if_neg (show ¬ (absM m).known.getD d.toNat 0 < i from hc1)]
end Go.Proofs.Ytobggnpnochnnaa.V
namespace Go.Proofs.Ytobggnpnochnnaa.V
open Go.RowKit Go.Proofs.Ytobggnpnochnnaa
set_option linter.unusedVariables false
set_option linter.unusedSimpArgs false
set_option maxHeartbeats 2000000 in
set_option maxRecDepth 20000 in
theorem sClone (w : World) (F : Nat → Prop) (hF : Old F w) (M : MS [] w) (x : Sl Int) (x_w : (slE intE).wf (Fr F []) w.heap x) (hb : x.xs.length ≤ 10000000) :
 Calls Try.prog 110 #[sV x] w fun e w' => ∃ (ra : Option Addr) (rc : Nat), e = .returned (.slice ra x.xs.length rc) ∧ Row intE 3 w.heap.size F [abk ra] w' ra rc x.xs ∧ Tr [] w [abk ra] w' := by
 have : x.xs.length ≤ 9223372036854775807 := (x_w).1.len
 refine go Try.func110 rfl 8 rfl [wfF (slE intE) x] [] hF M ⟨x_w, trivial⟩ trivial ?_
 intro a S
 have hD : ∀ k, In ([] : List BS) k → ¬ F k := fun _ h => h.elim
 refine rs S (la (av rfl)) ?_; clear S; intro a u S
 refine wp_seq ?_
 refine rs S (tr (mv rfl)<|la (ov fun S=>x_sleql uT22 (S.e rfl) (S.e rfl))) ?_; clear S; intro a u S
 refine cd S rfl ?_ ?_
 ·intro hc0
  refine rs S (la (av rfl)) ?_; clear S; intro a u S
  refine wp_ret (then_r ?_)
  replace S := S.nr intE 3
  refine ret1 rfl S.s rfl ?_
  have hx4 : x.xs = [] := by
   exact (S.u 0 rfl).1.nil_xs hc0
  rw [hx4]
  refine ⟨none, 0, rfl, (S.row 0 rfl), S.m.c⟩
 intro hc1
 refine wp_skip (then_n (rs0 ?_))
 refine nbr (q := 0) intE S [] (x_bsl0 uT22 iZ3) (fun _ h => by simp at h) ?_; clear S; intro a u b5 S
 refine sp S (la (mv rfl)) ?_; clear S; intro a u S
 refine ap (E := intE) (ys := x.xs) S 0 rfl uT22 iZ3 rfl rfl ((S.u 0 rfl)).1 ((S.u 0 rfl)).2.2 (LAt.mem ((S.u 0 rfl)).1) ⟨by unfold maxLen; (try simp only [List.length_cons, List.length_nil, List.length_append, List.length_map]); omega, by (try simp only [List.length_cons, List.length_nil, List.length_append, List.length_map]); omega⟩ ?_; clear S; intro a u ad7 cap7 S
 refine ens S (la (av rfl)) ?_; clear S; intro a u S
 refine wp_ret ?_
 refine ret1 rfl S.s rfl ?_
 have hx6 : x.xs = ([] ++ x.xs) := by
  first | rfl | simp
 rw [hx6]
 refine ⟨ad7, cap7, rfl, (S.row 0 rfl), S.m.c⟩
set_option maxHeartbeats 2000000 in
set_option maxRecDepth 20000 in
theorem cSent (w : World) (F : Nat → Prop) (hF : Old F w) (m_b : Nat) (m : Mach) (M : MS [In (ow (machF m_b m))] w) (hD : ∀ k, In [In (ow (machF m_b m))] k → ¬ F k) (m_k : machK m) (m_K : (bnO (machF m_b m)).p F (In [In (ow (machF m_b m))]) w) :
 Calls Try.prog 108 #[pT m_b 0] w fun e w' => ∃ (ra : Option Addr) (rc : Nat) (m_1 : Mach), e = .returned (.slice ra m.sent.xs.length rc) ∧ (slE intE).wf (Fr F [In (ow (machF m_b m_1))]) w'.heap (Sl.mk ra rc m.sent.xs) ∧ machK m_1 ∧ (bnO (machF m_b m_1)).p F (In [In (ow (machF m_b m_1))]) w' ∧ (KeepM m m_1 ∧ absM m_1 = {absM m with sent := []}) ∧ Tr [In (ow (machF m_b m))] w [In (ow (machF m_b m_1))] w' := by
 refine go Try.func108 rfl 12 rfl [] [bnO (machF m_b m)] hF M trivial ⟨m_K, trivial⟩ ?_
 intro a S
 refine rs S (la (av rfl)) ?_; clear S; intro a u S
 refine rs0 ?_
 refine sp S (tr (mv rfl)<|la (ov fun S=>x_nilck (S.e rfl))) ?_; clear S; intro a u S
 replace S := (show St _ _ _ _ _ _ [blO m_b [sV m.rounds, sV m.states, iI m.round, bD (m.back = true), iI m.seq, sV m.target, sV m.known, sV m.waiting, sV m.sent] 166, rwO intE 3 0 m.target.a m.target.c m.target.xs, rwO intE 3 0 m.known.a m.known.c m.known.xs, rwO intE 3 0 m.waiting.a m.waiting.c m.waiting.xs, rwO intE 3 0 m.sent.a m.sent.c m.sent.xs, daO (slE (slE chgE)) m.rounds, daO (slE (slE intE)) m.states] _ _ from S.opn (ks := []))
 replace S := S.ar (wfF (slE (slE chgE)) m.rounds) (S.da 5 rfl)
 replace S := S.ar (wfF (slE (slE intE)) m.states) (S.da 6 rfl)
 replace S := S.pk [0, 1, 2, 3, 4] (os' := [blO m_b [sV m.rounds, sV m.states, iI m.round, bD (m.back = true), iI m.seq, sV m.target, sV m.known, sV m.waiting, sV m.sent] 166, rwO intE 3 0 m.target.a m.target.c m.target.xs, rwO intE 3 0 m.known.a m.known.c m.known.xs, rwO intE 3 0 m.waiting.a m.waiting.c m.waiting.xs, rwO intE 3 0 m.sent.a m.sent.c m.sent.xs])
 have : m.target.xs.length ≤ 9223372036854775807 := (S.row 1 rfl).len_le
 have : m.known.xs.length ≤ 9223372036854775807 := (S.row 2 rfl).len_le
 have : m.waiting.xs.length ≤ 9223372036854775807 := (S.row 3 rfl).len_le
 have : m.sent.xs.length ≤ 9223372036854775807 := (S.row 4 rfl).len_le
 have : m.rounds.xs.length ≤ 9223372036854775807 := ((S.u 0 rfl)).1.len
 have : m.states.xs.length ≤ 9223372036854775807 := ((S.u 1 rfl)).1.len
 obtain ⟨_, _⟩ : inI64 m.round := m_k.1
 obtain ⟨_, _⟩ : inI64 m.seq := m_k.2
 refine ens S (tr (fldi 0 8 rfl uT166)<|tr (ldk 0 sC22 rfl rfl rfl)<|la (av rfl)) ?_; clear S; intro a u S
 refine rs S (tr (mv rfl)<|tr (ov fun S=>x_nilck (S.e rfl))<|tr (fldi 0 8 rfl uT166)<|la (stk 0 rfl rfl rfl)) ?_; clear S; intro a u S
 refine rs S (tr (mv rfl)<|la (av rfl)) ?_; clear S; intro a u S
 refine wp_ret ?_
 replace S := S.nr intE 3
 replace S := (show St _ _ _ _ _ _ [blO m_b [sV m.rounds, sV m.states, iI m.round, bD (m.back = true), iI m.seq, sV m.target, sV m.known, sV m.waiting, .slice none 0 0] 166, rwO intE 3 0 m.target.a m.target.c m.target.xs, rwO intE 3 0 m.known.a m.known.c m.known.xs, rwO intE 3 0 m.waiting.a m.waiting.c m.waiting.xs, rwO intE 3 0 m.sent.a m.sent.c m.sent.xs, rwO intE 3 0 none 0 ([])] _ _ from (S.b0 5 rfl))
 replace S := S.pk [4, 0, 1, 2, 3, 5] (os' := [rwO intE 3 0 m.sent.a m.sent.c m.sent.xs, blO m_b [sV m.rounds, sV m.states, iI m.round, bD (m.back = true), iI m.seq, sV m.target, sV m.known, sV m.waiting, .slice none 0 0] 166, rwO intE 3 0 m.target.a m.target.c m.target.xs, rwO intE 3 0 m.known.a m.known.c m.known.xs, rwO intE 3 0 m.waiting.a m.waiting.c m.waiting.xs, rwO intE 3 0 none 0 ([])])
 replace S := S.oda (E := slE (slE chgE)) (x := m.rounds) (S.u 0 rfl)
 replace S := S.oda (E := slE (slE intE)) (x := m.states) (S.u 1 rfl)
 have hk5 : machK (⟨m.rounds, m.states, m.round, m.back, m.seq, (Sl.mk m.target.a m.target.c m.target.xs), (Sl.mk m.known.a m.known.c m.known.xs), (Sl.mk m.waiting.a m.waiting.c m.waiting.xs), (Sl.mk none 0 ([]))⟩ : Mach) := ⟨m_k.1, m_k.2⟩
 replace S := (show St _ _ _ _ _ _ ([rwO intE 3 0 m.sent.a m.sent.c m.sent.xs] ++ machF m_b (⟨m.rounds, m.states, m.round, m.back, m.seq, (Sl.mk m.target.a m.target.c m.target.xs), (Sl.mk m.known.a m.known.c m.known.xs), (Sl.mk m.waiting.a m.waiting.c m.waiting.xs), (Sl.mk none 0 ([]))⟩ : Mach)) _ _ from S).cls
 replace S := (show St _ _ _ _ _ _ [rwO intE 3 0 m.sent.a m.sent.c m.sent.xs, bnO (machF m_b (⟨m.rounds, m.states, m.round, m.back, m.seq, (Sl.mk m.target.a m.target.c m.target.xs), (Sl.mk m.known.a m.known.c m.known.xs), (Sl.mk m.waiting.a m.waiting.c m.waiting.xs), (Sl.mk none 0 ([]))⟩ : Mach))] _ _ from S)
 replace S := S.fzD hD 0 rfl
 refine ret1 rfl S.s rfl ?_
 replace S := S.pk [1] (os' := [bnO (machF m_b (⟨m.rounds, m.states, m.round, m.back, m.seq, (Sl.mk m.target.a m.target.c m.target.xs), (Sl.mk m.known.a m.known.c m.known.xs), (Sl.mk m.waiting.a m.waiting.c m.waiting.xs), (Sl.mk none 0 ([]))⟩ : Mach))])
 refine ⟨m.sent.a, m.sent.c, (⟨m.rounds, m.states, m.round, m.back, m.seq, (Sl.mk m.target.a m.target.c m.target.xs), (Sl.mk m.known.a m.known.c m.known.xs), (Sl.mk m.waiting.a m.waiting.c m.waiting.xs), (Sl.mk none 0 ([]))⟩ : Mach), rfl, (S.u 2 rfl), hk5, (S.m.o _ (nth_mem (i := 0) rfl)), ?_, S.m.c⟩
 exact ⟨⟨rfl, rfl⟩, rfl⟩
set_option maxHeartbeats 2000000 in
set_option maxRecDepth 20000 in
theorem cControl (w : World) (F : Nat → Prop) (hF : Old F w) (M : MS [] w) (m : Nat × Mach) (m_w : (ptE machE 166).wf (Fr F []) w.heap m) (hb : m.2.target.xs.length ≤ 1000 ∧ m.2.known.xs.length ≤ 1000 ∧ m.2.waiting.xs.length ≤ 1000) :
 Calls Try.prog 77 #[pT m.1 0] w fun e w' => ∃ (ra_3 : Option Addr) (rc_3 : Nat) (ra_4 : Option Addr) (rc_4 : Nat) (ra_5 : Option Addr) (rc_5 : Nat), e = .returned (.agg #[iI m.2.round, bD (m.2.back = true), iI m.2.seq, .slice ra_3 m.2.target.xs.length rc_3, .slice ra_4 m.2.known.xs.length rc_4, .slice ra_5 m.2.waiting.xs.length rc_5]) ∧ Row intE 3 w.heap.size F [abk ra_5, abk ra_4, abk ra_3] w' ra_3 rc_3 m.2.target.xs ∧ Row intE 3 w.heap.size F [abk ra_5, abk ra_4, abk ra_3] w' ra_4 rc_4 m.2.known.xs ∧ Row intE 3 w.heap.size F [abk ra_5, abk ra_4, abk ra_3] w' ra_5 rc_5 m.2.waiting.xs ∧ Tr [] w [abk ra_5, abk ra_4, abk ra_3] w' := by
 have : m.2.rounds.xs.length ≤ 9223372036854775807 := (m_w.2.2.1).1.len
 have : m.2.states.xs.length ≤ 9223372036854775807 := (m_w.2.2.2.1).1.len
 obtain ⟨_, _⟩ : inI64 m.2.round := m_w.2.2.2.2.1
 obtain ⟨_, _⟩ : inI64 m.2.seq := m_w.2.2.2.2.2.2.1
 have : m.2.target.xs.length ≤ 9223372036854775807 := (m_w.2.2.2.2.2.2.2.1).1.len
 have : m.2.known.xs.length ≤ 9223372036854775807 := (m_w.2.2.2.2.2.2.2.2.1).1.len
 have : m.2.waiting.xs.length ≤ 9223372036854775807 := (m_w.2.2.2.2.2.2.2.2.2.1).1.len
 have : m.2.sent.xs.length ≤ 9223372036854775807 := (m_w.2.2.2.2.2.2.2.2.2.2).1.len
 obtain ⟨hb1, hb2, hb3⟩ := hb
 refine go Try.func77 rfl 21 rfl [wfF (ptE machE 166) m] [] hF M ⟨m_w, trivial⟩ trivial ?_
 intro a S
 have hD : ∀ k, In ([] : List BS) k → ¬ F k := fun _ h => h.elim
 refine rs0 ?_
 refine nbp S (x_allocz _ iZ57 rfl) ?_; clear S; intro a u b2 S
 refine ent (rs0 ?_)
 obtain ⟨hl3, hu3⟩ : inI64 m.2.round := id (((S.u 0 rfl).2.2).2.2.1)
 obtain ⟨hl4, hu4⟩ : inI64 m.2.seq := id (((S.u 0 rfl).2.2).2.2.2.2.1)
 have hn5 : m.2.target.xs.length ≤ 9223372036854775807 := (((S.u 0 rfl).2.2).2.2.2.2.2.1).1.len
 have hn6 : m.2.known.xs.length ≤ 9223372036854775807 := (((S.u 0 rfl).2.2).2.2.2.2.2.2.1).1.len
 have hn7 : m.2.waiting.xs.length ≤ 9223372036854775807 := (((S.u 0 rfl).2.2).2.2.2.2.2.2.2.1).1.len
 refine sp S (tr (mv rfl)<|tr (ov fun S=>x_nilck (S.e rfl))<|tr (fldi 0 2 rfl uT166)<|la (ov fun S=>x_loadw [iI m.2.round, bD (m.2.back = true), iI m.2.seq, sV m.2.target, sV m.2.known, sV m.2.waiting] wD57 (S.e rfl) ((S.u 0 rfl).1.mid [sV m.2.rounds, sV m.2.states] [iI m.2.round, bD (m.2.back = true), iI m.2.seq, sV m.2.target, sV m.2.known, sV m.2.waiting] [sV m.2.sent] rfl _ rfl))) ?_; clear S; intro a u S
 refine nbp S (x_allocz _ iZ57 rfl) ?_; clear S; intro a u b3 S
 refine ens S (la (stkw 1 rfl rfl rfl)) ?_; clear S; intro a u S
 refine wp_seq ?_
 obtain ⟨z0, hz0⟩ := S.z
 refine dr3 (P := Try.prog) S 10 [10, 13, 16] [(10, 13), (10, 16), (13, 16)] [] [(8, .is _), (9, .is _), (10, rowT intE 3 z0 _ m.2.target.xs), (11, .is _), (12, .is _), (13, rowT intE 3 z0 _ m.2.known.xs), (14, .is _), (15, .is _), (16, rowT intE 3 z0 _ m.2.waiting.xs), (17, .is _)] [[], [8], [9], [], [11], [12], [], [14], [15], []] [10, 13, 16, 17] _ ⟨⟨_, rfl, rowT_owns⟩, ⟨_, rfl, rowT_owns⟩, ⟨_, rfl, rowT_owns⟩, trivial⟩ ⟨qdc (qd (fldi 0 3 rfl uT57)), qdc (qd (ldk 1 sC22 rfl rfl rfl)), ?_, qdc (qd (fldi 0 4 rfl uT57)), qdc (qd (ldk 1 sC22 rfl rfl rfl)), ?_, qdc (qd (fldi 0 5 rfl uT57)), qdc (qd (ldk 1 sC22 rfl rfl rfl)), ?_, qdc (qd (fldi 0 3 rfl uT57)), trivial⟩ ?_
 ·skip
  intro a u S G _ _
  refine hcr S S.m G (sClone _ _ S.x (.nil _) m.2.target (dn0 (((S.u 0 rfl).2.2).2.2.2.2.2.1)) (by first | omega | (dsimp only; omega))) cB110 rfl hz0 ?_
  rintro e w2 ⟨ra, rc, rfl, R, T0⟩; exact ⟨ra, rc, rfl, R.own, T0.ch⟩
 ·skip
  intro a u S G _ _
  refine hcr S S.m G (sClone _ _ S.x (.nil _) m.2.known (dn0 (((S.u 0 rfl).2.2).2.2.2.2.2.2.1)) (by first | omega | (dsimp only; omega))) cB110 rfl hz0 ?_
  rintro e w2 ⟨ra, rc, rfl, R, T0⟩; exact ⟨ra, rc, rfl, R.own, T0.ch⟩
 ·skip
  intro a u S G _ _
  refine hcr S S.m G (sClone _ _ S.x (.nil _) m.2.waiting (dn0 (((S.u 0 rfl).2.2).2.2.2.2.2.2.2.1)) (by first | omega | (dsimp only; omega))) cB110 rfl hz0 ?_
  rintro e w2 ⟨ra, rc, rfl, R, T0⟩; exact ⟨ra, rc, rfl, R.own, T0.ch⟩
 have S0 := S
 clear S; intro a u S G hE hP
 obtain ⟨e10, e13, e16, -⟩ := hE
 obtain ⟨ad10, cap10, e10, X10, hn10⟩ := e10; replace S := S.ext e10
 obtain ⟨ad13, cap13, e13, X13, hn13⟩ := e13; replace S := S.ext e13
 obtain ⟨ad16, cap16, e16, X16, hn16⟩ := e16; replace S := S.ext e16
 have hsep : Sep (ow [rwO intE 3 w.heap.size ad10 cap10 m.2.target.xs, rwO intE 3 w.heap.size ad13 cap13 m.2.known.xs, rwO intE 3 w.heap.size ad16 cap16 m.2.waiting.xs]) := by
  refine ⟨?_, ?_, ?_, trivial⟩
  ·intro k hk hm
   rcases hm with hm | hm | hm
   ·exact hP 10 13 rfl k (abk_blks e10 hk) (abk_blks e13 hm)
   ·exact hP 10 16 rfl k (abk_blks e10 hk) (abk_blks e16 hm)
   exact hm
  ·intro k hk hm
   rcases hm with hm | hm
   ·exact hP 13 16 rfl k (abk_blks e13 hk) (abk_blks e16 hm)
   exact hm
  intro k hk hm
  exact hm
 replace S := S0.ownM S [] G (by intro j f hj; simp at hj) [rwO intE 3 w.heap.size ad10 cap10 m.2.target.xs, rwO intE 3 w.heap.size ad13 cap13 m.2.known.xs, rwO intE 3 w.heap.size ad16 cap16 m.2.waiting.xs] hsep (by
  intro f hf; simp only [List.mem_cons, List.not_mem_nil, or_false] at hf; rcases hf with rfl | rfl | rfl
  ·exact fun k hk => let ⟨q2, q3⟩ := row_blk X10 k hk; ⟨hz0 ▸ q2, q3⟩
  ·exact fun k hk => let ⟨q2, q3⟩ := row_blk X13 k hk; ⟨hz0 ▸ q2, q3⟩
  ·exact fun k hk => let ⟨q2, q3⟩ := row_blk X16 k hk; ⟨hz0 ▸ q2, q3⟩) (by
  intro m f hf; simp only [List.mem_cons, List.not_mem_nil, or_false] at hf; rcases hf with rfl | rfl | rfl
  ·exact ⟨Row.lower3 X10 (by have := S0.m.c.size; omega), fun x hx => Enc.mv _ m (LAt.mem (((S0.u 0 rfl).2.2).2.2.2.2.2.1).1 x hx)⟩
  ·exact ⟨Row.lower3 X13 (by have := S0.m.c.size; omega), fun x hx => Enc.mv _ m (LAt.mem (((S0.u 0 rfl).2.2).2.2.2.2.2.2.1).1 x hx)⟩
  exact ⟨Row.lower3 X16 (by have := S0.m.c.size; omega), fun x hx => Enc.mv _ m (LAt.mem (((S0.u 0 rfl).2.2).2.2.2.2.2.2.2.1).1 x hx)⟩)
 clear S0 hsep
 refine ens S (tr (stk 1 rfl rfl rfl)<|tr (fldi 0 4 rfl uT57)<|tr (stk 1 rfl rfl rfl)<|tr (fldi 0 5 rfl uT57)<|la (stk 1 rfl rfl rfl)) ?_; clear S; intro a u S
 refine rs S (tr (ldkw 1 rfl rfl wD57)<|la (stkw 0 rfl rfl rfl)) ?_; clear S; intro a u S
 refine wp_ret ?_
 refine retcw rfl S.s rfl [iI m.2.round, bD (m.2.back = true), iI m.2.seq, .slice ad10 m.2.target.xs.length cap10, .slice ad13 m.2.known.xs.length cap13, .slice ad16 m.2.waiting.xs.length cap16] wD57 (fun j v hv => by rw [Nat.zero_add]; exact (S.k 0 rfl).cell hv) ?_
 replace S := S.pk [4, 3, 2] (os' := [rwO intE 3 w.heap.size ad16 cap16 m.2.waiting.xs, rwO intE 3 w.heap.size ad13 cap13 m.2.known.xs, rwO intE 3 w.heap.size ad10 cap10 m.2.target.xs])
 refine ⟨ad10, cap10, ad13, cap13, ad16, cap16, rfl, (S.row 2 rfl), (S.row 1 rfl), (S.row 0 rfl), S.m.c⟩
end Go.Proofs.Ytobggnpnochnnaa.V
