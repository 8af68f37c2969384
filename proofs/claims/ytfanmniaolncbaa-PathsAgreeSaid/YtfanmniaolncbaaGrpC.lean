/- V7 V8 V9 in one text -/
import Derived.Test.YtfanmniaolncbaaGrpB
set_option linter.unusedVariables false
set_option linter.unusedSimpArgs false
/- Regions in which an address is made beside an append, in either order: x.f = append(x.f, ..). -/
namespace Go.Proofs.Ytfanmniaolncbaa.V
open Go.RowKit
theorem Oper.wp_put {P : Program} {o : Oper} {a : Act} {w : World} {K : Act → World → Prop} {Q : Exit → Act → World → Prop} (h : o.wp P a w K Q) : o.wp P a w (fun a' w' => K a' w' ∧ ∃ v, a'.tmps = (a.put o.dst v).tmps) Q := by
  unfold Oper.wp at *
  generalize (execOp a.eval o).run P w = r at *
  cases r with
  | ok n w' =>
    cases n <;> simp only [Oper.upon] at h ⊢ <;>
      first
        | exact ⟨h, _, rfl⟩
        | exact ⟨h, undef, by cases o.dst <;> rfl⟩
        | exact Calls.mono h (fun e w'' he => by cases e <;> first | exact ⟨he, _, rfl⟩ | exact he)
        | exact Rows.mono h (fun _ _ he => ⟨he, _, rfl⟩)
  | halt x w' => cases x <;> simp only [Oper.upon] at h ⊢ <;> exact h
section
variable {P : Program} {Q : Exit → Act → World → Prop}
theorem Slots.put_ne {N d : Nat} {L : List (Nat × Value)} {a : Act} {v : Value} (S : Slots N L a) (hd : look d L = none) : Slots N L (a.put (some d) v) := by
  refine ⟨by simp [Act.put, S.size], S.defers, fun i u hu => ?_⟩
  have : d ≠ i := by rintro rfl; rw [hd] at hu; cases hu
  rw [show (a.put (some d) v).tmps.getD i undef = a.tmps.getD i undef from by simp [Act.put, Array.getElem?_setIfInBounds_ne this]]
  exact S.get i u hu
theorem Slots.both {N : Nat} {L Z : List (Nat × Value)} {a : Act} (S : Slots N L a) (T : Slots N Z a) : Slots N (Z ++ L) a := by
  refine ⟨S.size, S.defers, fun i u hu => ?_⟩
  induction Z with
  | nil => exact S.get i u hu
  | cons p r ih =>
    obtain ⟨j, v⟩ := p
    rw [List.cons_append, look_cons] at hu
    by_cases e : j = i
    · rw [if_pos e] at hu
      exact T.get i u (by rw [look_cons, if_pos e]; exact hu)
    · rw [if_neg e] at hu
      by_cases hr : ∃ x, look i r = some x
      · obtain ⟨x, hx⟩ := hr
        have hx2 : look i (r ++ L) = some x := by
          clear ih T hu
          induction r with
          | nil => cases hx
          | cons q r ih =>
            obtain ⟨k, y⟩ := q
            rw [List.cons_append, look_cons]
            rw [look_cons] at hx
            by_cases ek : k = i
            · rw [if_pos ek] at hx ⊢; exact hx
            · rw [if_neg ek] at hx ⊢; exact ih hx
        rw [hx2] at hu
        rw [← Option.some.inj hu]
        exact T.get i x (by rw [look_cons, if_neg e]; exact hx)
      · have hn : look i r = none := by
          cases h : look i r with
          | none => rfl
          | some x => exact absurd ⟨x, h⟩ hr
        have : look i (r ++ L) = look i L := by
          clear ih T hu hr
          induction r with
          | nil => rfl
          | cons q r ih =>
            obtain ⟨k, y⟩ := q
            rw [look_cons] at hn
            rw [List.cons_append, look_cons]
            by_cases ek : k = i
            · rw [if_pos ek] at hn; cases hn
            · rw [if_neg ek] at hn ⊢; exact ih hn
        rw [this] at hu
        exact S.get i u hu
end
end Go.Proofs.Ytfanmniaolncbaa.V
/- Short forms of what a walk's text repeats. -/
namespace Go.Proofs.Ytfanmniaolncbaa.V
open Go.RowKit
abbrev bD (p : Prop) [Decidable p] : Value := .bool (decide p)
abbrev iN (n : Nat) : Value := .int .i64 (n : Int)
abbrev iI (i : Int) : Value := .int .i64 i
abbrev pT (b o : Nat) : Value := .pointer (some ⟨b, o, none⟩)
abbrev sV {α : Type} (s : Sl α) : Value := .slice s.a s.xs.length s.c
section
variable {P : Program} {Q : Exit → Act → World → Prop} {n : Nat} {L : List (Nat × Value)} {a : Act} {w : World} {ops : Array Oper} {rest : List Oper} {o : Oper} {ty : TypeId} {pos : String} {af : Array Edge}
theorem Slots.e (S : Slots n L a) {x : Operand} {v : Value} (h : evS L x = some v) : a.eval x = v := S.eval h
theorem Slots.p (S : Slots n L a) {x : Operand} {c : Prop} [Decidable c] {v u : Value} (h : evS L x = some (if c then v else u)) (hc : c) : a.eval x = v := (S.eval h).trans (if_pos hc)
end
section
variable {M : Nat → Prop} {E : List (Nat × StP M)} {I : World → Prop} {N i : Nat} {P : Program} {Q : Exit → Act → World → Prop} {L : List (Nat × Value)} {a : Act} {w : World} {ops : Array Oper} {o : Oper} {ty : TypeId} {pos : String} {af : Array Edge}
end
section
variable {α : Type} {F : Nat → Prop} {ms ms' chg : List BS} {w w' : World} {x : α}
end
end Go.Proofs.Ytfanmniaolncbaa.V
/- Regions that draw their order and make several new blocks: what is told of two of them. -/
namespace Go.Proofs.Ytfanmniaolncbaa.V
open Go.RowKit
section
variable {P : Program}
end
def blkOf : Value → Option Nat
  | .pointer (some ⟨b, _, _⟩) => some b
  | .slice (some ⟨b, _, _⟩) _ _ => some b
  | _ => none
structure DoneN {M : Nat → Prop} (A : List Nat) (o : Oper) (E : List (Nat × StP M)) (I : World → Prop) (N : Nat) (a : Act) (w : World) (a' : Act) (w' : World) : Prop where
  put : ∃ v, a' = a.put o.dst v ∧ ∀ d, o.dst = some d → d < N ∧ lookE E d v w' ∧ (d ∈ A → ∃ b, blkOf v = some b ∧ w.heap.size ≤ b)
  ch : Ch M w w'
  inv : I w'
def stepsN {M : Nat → Prop} (A : List Nat) (P : Program) (ops : Array Oper) (Q : Exit → Act → World → Prop) (N : Nat) (L : List (Nat × Value)) (W : World) (E : List (Nat × StP M)) (I : World → Prop) : Nat → List Oper → List (List Nat) → Prop
  | i, o :: r, D :: Ds => (∀ a w, Ch M W w → I w → Slots N L a → deps E a w D → wpOp P ops Q i (DoneN A o E I N a w) a w) ∧ stepsN A P ops Q N L W E I (i + 1) r Ds
  | _, _, _ => True
theorem headOk_dst {ops : Array Oper} {n i k d : Nat} {o p : Oper} (hok : headOk ops n = true) (hi : i < n) (hk : k < n) (ho : ops[i]? = some o) (hp : ops[k]? = some p) (hd : p.dst = some d) (hki : k ≠ i) : o.dst ≠ some d := by
  have g1 := List.all_eq_true.1 hok i (List.mem_range.2 hi)
  simp only [ho, Bool.and_eq_true] at g1
  have g2 := List.all_eq_true.1 g1.2 k (List.mem_range.2 hk)
  simp only [hp, hd, Bool.and_eq_true, Bool.or_eq_true, beq_iff_eq, bne_iff_ne, Option.isNone_some, Bool.false_eq_true, or_false] at g2
  exact fun e => (g2.1.resolve_left hki) e.symm
theorem Row.ups {α : Type} {E : Enc α} {t : TypeId} {base b0 : Nat} {F : Nat → Prop} {ms m0 nw : List BS} {w : World} {ad : Option Addr} {cap : Nat} {xs : List α} (r : Row E t base (Ex F ms) (nw ++ m0) w ad cap xs) (hb : b0 ≤ base) : Row E t b0 F (nw ++ ms) w ad cap xs :=
  ⟨(r.lower hb).own, fun x hx => E.mono (fun k _ h => ⟨fun e => (in_app.1 e).elim (fun e => h.1 (in_app.2 (.inl e))) fun e => h.2 (.inl e), fun e => h.2 (.inr e)⟩) (r.wf x hx)⟩
end Go.Proofs.Ytfanmniaolncbaa.V
