/- Two facts of the call's own that a callee changes at once: a struct that holds a row. -/
import Derived.Test.YtfanmniaolncbaaGrpD
set_option linter.unusedVariables false
set_option linter.unusedSimpArgs false
namespace Go.Proofs.Ytfanmniaolncbaa.V
open Go.RowKit
theorem sep_idx : ∀ {ms : List BS}, (∀ i j : Nat, i ≠ j → ∀ (o p : BS), ms[i]? = some o → ms[j]? = some p → ∀ k, o k → ¬ p k) → Sep ms
  | [], _ => trivial
  | o :: r, h => ⟨fun k hk hm => by
      have : ∀ {l : List BS}, In l k → ∃ (j : Nat) (p : BS), l[j]? = some p ∧ p k := fun {l} => by
        induction l with
        | nil => intro h; exact h.elim
        | cons q l ih =>
          intro h
          rcases h with h | h
          · exact ⟨0, q, rfl, h⟩
          · obtain ⟨j, p, h1, h2⟩ := ih h; exact ⟨j + 1, p, h1, h2⟩
      obtain ⟨j, p, h1, h2⟩ := this hm
      exact h 0 (j + 1) (by omega) o p rfl h1 k hk h2,
    sep_idx fun i j hij a b ha hb => h (i + 1) (j + 1) (by omega) a b ha hb⟩
theorem in_at {l : List BS} {k : Nat} : In l k ↔ ∃ (j : Nat) (p : BS), l[j]? = some p ∧ p k := by
  induction l with
  | nil => exact ⟨fun h => h.elim, fun ⟨j, p, h, _⟩ => by simp at h⟩
  | cons q l ih =>
    constructor
    · rintro (h | h)
      · exact ⟨0, q, rfl, h⟩
      · obtain ⟨j, p, h1, h2⟩ := ih.1 h; exact ⟨j + 1, p, h1, h2⟩
    · rintro ⟨j, p, h1, h2⟩
      cases j with
      | zero => cases h1; exact .inl h2
      | succ j => exact .inr (ih.2 ⟨j, p, h1, h2⟩)
section
variable {F : Nat → Prop} {w0 w w' : World} {m0 : List BS} {n : Nat} {L : List (Nat × Value)} {rs : List RF} {os : List OF} {a : Act} {α : Type} {E : Enc α} {t : TypeId} {base : Nat} {ms : List BS} {ad : Option Addr} {cap : Nat} {xs : List α}
/-- a row of the caller's own as one that the callee may rewrite, and back -/
theorem Row.dn1 (r : Row E t base F ms w ad cap xs) {js : List Nat} : Row E t base (Ex F ms) (picks ms js) w ad cap xs := ⟨r.own, fun x hx => V.dn1 (r.wf x hx)⟩
theorem Row.ret {m : List BS} (r : Row E t base (Ex F ms) m w ad cap xs) : (rwO E t base ad cap xs).p F (In ms) w := ⟨r.own, fun x hx => Enc.mono _ (fun _ _ h => ⟨fun e => h.2 (.inl e), fun e => h.2 (.inr e)⟩) (r.wf x hx)⟩
theorem Row.ret2 {m : List BS} {W : Nat → Prop} (r : Row E t base (Ex F ms) m w ad cap xs) (h : ∀ k, W k → In ms k ∨ In m k) : (rwO E t base ad cap xs).p F W w := ⟨r.own, fun x hx => Enc.mono _ (fun k _ g => ⟨fun e => (h k e).elim (fun e => g.2 (.inl e)) g.1, fun e => g.2 (.inr e)⟩) (r.wf x hx)⟩
theorem St.bs0 (S : St F w0 m0 n L rs os a w) : w0.heap.size ≤ w.heap.size := S.m.c.size
end
section
variable {F : Nat → Prop} {w0 w w' : World} {m0 : List BS} {n : Nat} {L L' : List (Nat × Value)} {rs : List RF} {os : List OF} {a a' : Act}
theorem St.k2 {f g : OF} (S : St F w0 m0 n L rs os a w) (i j : Nat) (hij : i ≠ j) (hi : nth os i = some f) (hj : nth os j = some g) (f' g' : OF) (s : Slots n L' a') (t : Tr [f.o, g.o] w [f'.o, g'.o] w')
    (hf : ∀ W, f'.p F W w') (hg : ∀ W, (∀ k, W k → In (ow os) k ∨ In [f'.o, g'.o] k) → g'.p F W w') : St F w0 m0 n L' rs ((os.set i f').set j g') a' w' := by
  have hof := ow_get hi
  have hog := ow_get hj
  have il : i < os.length := by rw [nth_get] at hi; exact (List.getElem?_eq_some_iff.1 hi).1
  have jl : j < os.length := by rw [nth_get] at hj; exact (List.getElem?_eq_some_iff.1 hj).1
  have hget : ∀ k o, (ow ((os.set i f').set j g'))[k]? = some o → (k = j ∧ o = g'.o) ∨ (k = i ∧ k ≠ j ∧ o = f'.o) ∨ (k ≠ i ∧ k ≠ j ∧ (ow os)[k]? = some o) := fun k o h => by
    rw [ow_map, List.getElem?_map, List.getElem?_set, List.getElem?_set] at h
    by_cases e : j = k
    · subst e
      rw [if_pos rfl, if_pos (by rw [List.length_set]; exact jl)] at h
      exact .inl ⟨rfl, (Option.some.inj h).symm⟩
    · rw [if_neg e] at h
      by_cases e2 : i = k
      · subst e2
        rw [if_pos rfl, if_pos il] at h
        exact .inr (.inl ⟨rfl, fun q => e q.symm, (Option.some.inj h).symm⟩)
      · rw [if_neg e2] at h
        refine .inr (.inr ⟨fun q => e2 q.symm, fun q => e q.symm, ?_⟩)
        rw [ow_map, List.getElem?_map]; exact h
  have hsub : ∀ k, In [f.o, g.o] k → In (ow os) k := fun k hk => by
    rcases hk with hk | hk | hk
    · exact in_at.2 ⟨i, _, hof, hk⟩
    · exact in_at.2 ⟨j, _, hog, hk⟩
    · exact hk.elim
  have hnew : ∀ k, In (ow ((os.set i f').set j g')) k → In (ow os) k ∨ In [f'.o, g'.o] k := fun k hk => by
    obtain ⟨m, o, h1, h2⟩ := in_at.1 hk
    rcases hget m o h1 with ⟨_, rfl⟩ | ⟨_, _, rfl⟩ | ⟨_, _, h⟩
    · exact .inr (.inr (.inl h2))
    · exact .inr (.inl h2)
    · exact .inl (in_at.2 ⟨m, o, h, h2⟩)
  have hMS := S.m.c.ms
  -- a block of the changed ones is none of another fact's
  have hout : ∀ m o, m ≠ i → m ≠ j → (ow os)[m]? = some o → ∀ k, o k → ¬ In [f'.o, g'.o] k := fun m o hmi hmj hm k hk hin => by
    rcases t.sub k hin with h | h
    · have := hMS.sep.out m [i, j] (by simp; omega) hm hk
      simp only [picks, List.filterMap_cons, hof, hog, List.filterMap_nil] at this
      exact this h
    · have := hMS.lt k (in_at.2 ⟨m, o, hm, hk⟩); omega
  have hfg : ∀ k, f'.o k → ¬ g'.o k := fun k h1 h2 => t.ms.sep.1 k h1 (.inl h2)
  have T : Tr (ow os) w (ow ((os.set i f').set j g')) w' := by
    refine ⟨t.ch.mono hsub, fun k hk => ?_, ⟨fun k hk => ?_, sep_idx fun x y hxy o p hx hy k ho hp => ?_⟩⟩
    · rcases hnew k hk with h | h
      · exact .inl h
      · exact (t.sub k h).imp (hsub k) id
    · rcases hnew k hk with h | h
      · exact Nat.lt_of_lt_of_le (hMS.lt k h) t.size
      · exact t.ms.lt k h
    · rcases hget x o hx with ⟨rfl, rfl⟩ | ⟨rfl, hxj, rfl⟩ | ⟨hxi, hxj, hx2⟩ <;> rcases hget y p hy with ⟨rfl, rfl⟩ | ⟨rfl, hyj, rfl⟩ | ⟨hyi, hyj, hy2⟩
      · exact hxy rfl
      · exact hfg k hp ho
      · exact hout y p hyi hyj hy2 k hp (.inr (.inl ho))
      · exact hfg k ho hp
      · exact hxy rfl
      · exact hout y p hyi hyj hy2 k hp (.inl ho)
      · exact hout x o hxi hxj hx2 k ho (.inr (.inl hp))
      · exact hout x o hxi hxj hx2 k ho (.inl hp)
      · have := hMS.sep.out x [y] (by simp; omega) hx2 ho
        simp only [picks, List.filterMap_cons, hy2, List.filterMap_nil] at this
        exact this (.inl hp)
  refine ⟨s, S.m.go T fun q hq => ?_⟩
  obtain ⟨m, hm⟩ := idx_of hq
  rw [nth_get, List.getElem?_set, List.getElem?_set] at hm
  by_cases e : j = m
  · subst e
    rw [if_pos rfl, if_pos (by rw [List.length_set]; exact jl)] at hm
    cases hm
    exact hg _ hnew
  · rw [if_neg e] at hm
    by_cases e2 : i = m
    · subst e2
      rw [if_pos rfl, if_pos il] at hm
      cases hm
      exact hf _
    · rw [if_neg e2, ← nth_get] at hm
      refine q.st T.mv (fun k hk ho => t.ch.block k hk fun hin => ?_) (S.m.o q (nth_mem hm))
      have := hMS.sep.out m [i, j] (by simp; omega) (ow_get hm) ho
      simp only [picks, List.filterMap_cons, hof, hog, List.filterMap_nil] at this
      exact this hin
end
section
variable {P : Program} {ops : Array Oper} {F : Nat → Prop} {w0 : World} {m0 : List BS} {n : Nat} {L : List (Nat × Value)} {fs : List RF} {os : List OF} {ty : TypeId} {pos : String} {af : Array Edge}
/-- a call of a closure without captures -/
theorem ocf {d : Nat} {x : Operand} {f : FuncId} {args : Array Operand} {ats : Array TypeId} {vs : Array Value} {v : Value} (h : ∀ {a w}, St F w0 m0 n L fs os a w → Calls P f vs w fun e w' => e = .returned v ∧ Tr [] w [] w') (hf : Callable P f)
    (hx : evS L x = some (.func (.func f) #[] #[]) := by rfl) (hv : args.toList.map (evS L) = vs.toList.map some := by rfl) (hd : d < n := by decide) :
    One P ops (St F w0 m0 n L fs os) [] ⟨some d, .call ⟨.value x, args, ats⟩, ty, pos, af, none⟩ (St F w0 m0 n ((d, v) :: L) fs os) := fun K Q a w S k => by
  unfold Core
  rw [if_pos (by simp [Region.wanted])]
  have h' : Calls P f (vs ++ #[]) w fun e w' => e = .returned v ∧ Tr [] w [] w' := by rw [Array.append_empty]; exact h S
  exact .inl (op_callv (caps := #[]) (S.s.eval hx) (args_eval S.s hv) hf h' fun e w' ⟨he, t⟩ => ⟨v, he, k _ _ (S.k0 (S.s.put hd) t) t.ch⟩)
end
end Go.Proofs.Ytfanmniaolncbaa.V
